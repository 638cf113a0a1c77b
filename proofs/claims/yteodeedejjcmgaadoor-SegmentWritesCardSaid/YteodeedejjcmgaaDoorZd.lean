/- Texts of the claim, joined: what it uses of Mcr, Drf, Mrf, Drg, Mrg, Dtx, Mtx, Va, Dst0, Vb, Dst, Mst, Dev, Mev. -/
import Derived.Test.YteodeedejjcmgaaDoorZc
import Derived.Test.YteodeedejjcmgaaDoorProg
import Derived.Shelf.SlIter.Sorted
import Derived.Shelf.Sort.Plain
import Derived.Shelf.Slices.In.SortNone
import Derived.Shelf.Slices.CompactS
import Derived.KernelRfl
namespace Go.Proofs.YteodeedejjcmgaaDoor.M
open Go Go.RowKit Go.Proofs.YteodeedejjcmgaaDoor.E
set_option linter.unusedVariables false
set_option maxRecDepth 100000
set_option maxHeartbeats 4000000
set_option linter.unusedSimpArgs false
theorem F_column_Reader_Check {r : World} {L : List HP} {w : World} {Z : Nat → Prop} {wz : World} (a0 : S106) (a1 : Bool) (g0 : Nat) {y : ((S106) ⊕ (S106))} (hF : column_Reader_Check a0 a1 = some y) (qz : Nat) (hZ : L[qz]? = some (zone Z wz)) (hS : SH r (obj106 Z wz g0 a0 :: L) w) :
  RetS Tryd.prog 59 #[.pointer (some ⟨g0, 0, none⟩), .bool a1] w badC y (fun y v w' => v = .tuple #[] ∧ SH r (obj106 Z wz g0 y :: L) w') (fun y w' => SH r (obj106 Z wz g0 y :: L) w') := by
 refine enterS Tryd.func59 rfl Tryd.ntmps59 [(0, .pointer (some ⟨g0, 0, none⟩)), (1, .bool a1)] rfl (by simp) ?_
 intro ac hA Qf hQ hQn hQp
 unfold column_Reader_Check at hF
 obtain ⟨A101, n102, c103, hS⟩ := obj106_open hS
 replace hS := hS.pk 1
 have hQ0 := SH.unpure hS
 clear hS
 obtain ⟨h104, hS⟩ := hQ0
 refine ws fun K105 hK105 => ?_
 refine x_m hA rfl fun ac hA => ?_
 refine x_v hA (r_not rfl (hA.ev rfl)) rfl fun ac hA => ?_
 refine wn (hK105 _ _ ?_)
 refine c_if hA rfl (fun hb106 => ?_) fun hb106 => ?_
 ·replace hF := ift hb106 hF
  refine wp_reg ?_
  refine x_v (v := .agg #[]) hA (r_build (ps := #[]) rfl (mapev2 hA rfl) (fun w => by kernel_rfl)) rfl fun ac hA => ?_
  refine x_v hA (r_makeI Tryd.underlying102 rfl rfl (hA.ev rfl)) rfl fun ac hA => ?_
  refine x_panic hA ?_ rfl rfl rfl
  replace hS := SH.pure_ h104 hS
  replace hS := hS.pk 1
  replace hS := obj106_mk (x := a0) hS
  cases hF
  exact hQp _ rfl _ _ hA.defers hS
 replace hF := iff' hb106 hF
 refine wp_skip ?_
 replace hS := SH.pure_ h104 hS
 replace hS := hS.pk 1
 replace hS := obj106_mk (x := a0) hS
 cases hF
 refine hQn _ rfl _ _ ?_
 refine lv0n Tryd.results59 hA ?_
 exact ⟨rfl, hS⟩
theorem F_column_Reader_Byte {r : World} {L : List HP} {w : World} {Z : Nat → Prop} {wz : World} (a0 : S106) (g0 : Nat) {y : ((Int × S106) ⊕ (S106))} (hF : column_Reader_Byte a0 = some y) (qz : Nat) (hZ : L[qz]? = some (zone Z wz)) (hS : SH r (obj106 Z wz g0 a0 :: L) w) :
  RetS Tryd.prog 76 #[.pointer (some ⟨g0, 0, none⟩)] w badC y (fun y v w' => v = .int .u8 y.1 ∧ SH r (obj106 Z wz g0 y.2 :: L) w') (fun y w' => SH r (obj106 Z wz g0 y :: L) w') := by
 refine enterS Tryd.func76 rfl Tryd.ntmps76 [(0, .pointer (some ⟨g0, 0, none⟩))] rfl (by simp) ?_
 intro ac hA Qf hQ hQn hQp
 unfold column_Reader_Byte at hF
 obtain ⟨A101, n102, c103, hS⟩ := obj106_open hS
 replace hS := hS.pk 1
 have hQ0 := SH.unpure hS
 clear hS
 obtain ⟨h104, hS⟩ := hQ0
 refine ws fun K105 hK105 => ?_
 refine x_m hA rfl fun ac hA => ?_
 refine wn (hK105 _ _ ?_)
 refine ws fun K106 hK106 => ?_
 refine x_m hA rfl fun ac hA => ?_
 refine x_m hA rfl fun ac hA => ?_
 refine x_v hA (r_nilCheck rfl (hA.ev rfl)) rfl fun ac hA => ?_
 refine x_fab fa106_0 hA (fun ac hA => ?_) rfl rfl rfl rfl rfl
 refine x_ld Tryd.underlying24 (hS.cell 0 rfl 0 _ rfl) hA (fun ac hA => ?_) rfl rfl rfl rfl rfl rfl
 refine x_len Tryd.underlying24 (hS.rdl 1 (h104.rdl qz hZ) rfl).2.1 hA (fun ac hA => ?_) rfl rfl rfl rfl rfl
 refine x_v hA (r_gtI rfl (hA.ev rfl) (hA.ev rfl)) rfl fun ac hA => ?_
 replace hS := SH.pure_ h104 hS
 replace hS := hS.pk 1
 replace hS := obj106_mk (x := a0) hS
 obtain ⟨y107, h108, hF⟩ := bnd hF
 rcases y107 with y107 | y107
 rotate_left
 ·replace hF := sum_r hF
  refine x_callp (vs := #[.pointer (some ⟨g0, 0, none⟩), .bool (decide (0 < (a0.f0.length : Int)))]) en59 hA (RetS.rf (F_column_Reader_Check (L := L) a0 (decide (0 < (a0.f0.length : Int))) g0 h108 (qz + 0) hZ hS)) (fun w hR => ?_) rfl rfl rfl rfl rfl
  replace hS := hR
  obtain ⟨A109, n110, c111, hS⟩ := obj106_open hS
  replace hS := hS.pk 1
  have hQ0 := SH.unpure hS
  clear hS
  obtain ⟨h112, hS⟩ := hQ0
  replace hS := SH.pure_ h112 hS
  replace hS := hS.pk 1
  replace hS := obj106_mk (x := y107) hS
  cases hF
  exact hQp _ rfl _ _ hA.defers hS
 replace hF := sum_l hF
 refine x_callw (vs := #[.pointer (some ⟨g0, 0, none⟩), .bool (decide (0 < (a0.f0.length : Int)))]) en59 hA (RetS.lf (F_column_Reader_Check (L := L) a0 (decide (0 < (a0.f0.length : Int))) g0 h108 (qz + 0) hZ hS)) (fun v ac w hR hA => ?_) rfl rfl rfl rfl rfl rfl rfl
 obtain ⟨rfl, hS⟩ := hR
 obtain ⟨A113, n114, c115, hS⟩ := obj106_open hS
 replace hS := hS.pk 1
 have hQ0 := SH.unpure hS
 clear hS
 obtain ⟨h116, hS⟩ := hQ0
 refine wn (hK106 _ _ ?_)
 refine ws fun K117 hK117 => ?_
 refine x_m hA rfl fun ac hA => ?_
 refine x_v hA (r_nilCheck rfl (hA.ev rfl)) rfl fun ac hA => ?_
 refine x_fab fa106_0 hA (fun ac hA => ?_) rfl rfl rfl rfl rfl
 refine x_ld Tryd.underlying24 (hS.cell 0 rfl 0 _ rfl) hA (fun ac hA => ?_) rfl rfl rfl rfl rfl rfl
 obtain ⟨x118, h119, hF⟩ := bnd hF
 refine x_ia Tryd.underlying24 sz5 (hS.rdl 1 (h116.rdl qz hZ) rfl) h119 hA (fun ac hA => ?_) rfl rfl rfl rfl rfl rfl
 obtain ⟨cs, hV, hc120⟩ := el (hS.rdl 1 (h116.rdl qz hZ) rfl) h119
 obtain rfl := hV
 refine x_ld Tryd.underlying5 (hc120 0 _ rfl) hA (fun ac hA => ?_) rfl rfl rfl rfl rfl rfl
 refine x_m hA rfl fun ac hA => ?_
 refine wn (hK117 _ _ ?_)
 refine ws fun K121 hK121 => ?_
 refine x_m hA rfl fun ac hA => ?_
 refine x_m hA rfl fun ac hA => ?_
 refine x_v hA (r_nilCheck rfl (hA.ev rfl)) rfl fun ac hA => ?_
 refine x_fab fa106_0 hA (fun ac hA => ?_) rfl rfl rfl rfl rfl
 refine x_ld Tryd.underlying24 (hS.cell 0 rfl 0 _ rfl) hA (fun ac hA => ?_) rfl rfl rfl rfl rfl rfl
 obtain ⟨l122, h123, hF⟩ := bnd hF
 obtain ⟨A126, n127, c128, e125, h124⟩ := imm_lc h116 h123
 refine x_v (v := .slice A126 n127 c128) hA (rv_e e125 (r_slice_l Tryd.underlying24 sz5 rfl (hA.ev rfl) (hA.ev rfl) (cutq (hS.rdl 1 (h116.rdl qz hZ) rfl) h123).1 (cutq (hS.rdl 1 (h116.rdl qz hZ) rfl) h123).2.2.2.2.2)) rfl fun ac hA => ?_
 refine x_v hA (r_nilCheck rfl (hA.ev rfl)) rfl fun ac hA => ?_
 refine x_fab fa106_0 hA (fun ac hA => ?_) rfl rfl rfl rfl rfl
 refine x_stb 0 sz24 hA hS rfl (fun  ac w hS hA => ?_) rfl rfl rfl rfl rfl rfl rfl rfl
 refine wn (hK121 _ _ ?_)
 refine ws fun K129 hK129 => ?_
 refine x_m hA rfl fun ac hA => ?_
 refine x_m hA rfl fun ac hA => ?_
 refine wn (hK129 _ _ ?_)
 refine wp_ret ?_
 replace hS := SH.pure_ h124 hS
 replace hS := hS.pk 1
 replace hS := obj106_mk (x := (⟨l122⟩ : S106)) hS
 cases hF
 refine hQ _ rfl _ _ ?_
 refine lv Tryd.results76 hA rfl ?_
 exact ⟨rfl, hS⟩
theorem F_column_Reader_Uint {r : World} {L : List HP} {w : World} {Z : Nat → Prop} {wz : World} (a0 : S106) (a1 : Int) (g0 : Nat) {y : ((Int × S106) ⊕ (S106))} (hF : column_Reader_Uint a0 a1 = some y) (qz : Nat) (hZ : L[qz]? = some (zone Z wz)) (hS : SH r (obj106 Z wz g0 a0 :: L) w) :
  RetS Tryd.prog 58 #[.pointer (some ⟨g0, 0, none⟩), .int .u64 a1] w badC y (fun y v w' => v = .int .u64 y.1 ∧ SH r (obj106 Z wz g0 y.2 :: L) w') (fun y w' => SH r (obj106 Z wz g0 y :: L) w') := by
 refine enterS Tryd.func58 rfl Tryd.ntmps58 [(0, .pointer (some ⟨g0, 0, none⟩)), (1, .int .u64 a1)] rfl (by simp) ?_
 intro ac hA Qf hQ hQn hQp
 unfold column_Reader_Uint at hF
 obtain ⟨A101, n102, c103, hS⟩ := obj106_open hS
 replace hS := hS.pk 1
 have hQ0 := SH.unpure hS
 clear hS
 obtain ⟨h104, hS⟩ := hQ0
 refine ws fun K105 hK105 => ?_
 refine x_m hA rfl fun ac hA => ?_
 refine wn (hK105 _ _ ?_)
 refine ws fun K106 hK106 => ?_
 refine x_m hA rfl fun ac hA => ?_
 refine wn (hK106 _ _ ?_)
 refine ws fun K107 hK107 => ?_
 refine x_m hA rfl fun ac hA => ?_
 refine wn (hK107 _ _ ?_)
 refine wp_block_k fun Kx108 hKx108 => ?_
 obtain ⟨t473, hl473, hF⟩ := bnd hF
 have hR473 := hF
 refine wp_loop_fn hl473 (fun s ac w => ∃ (A289 : Option Addr) (n290 : Nat) (c291 : Nat), Imm Z wz (kI .u8) A289 n290 c291 s.1 ∧ FR 48 [] ac [(0, .pointer (some ⟨g0, 0, none⟩)), (1, .int .u64 a1), (5, .int .u64 s.2.1), (6, .int .i64 s.2.2)] ∧ SH r (blk g0 106 [.slice A289 n290 c291] :: L) w) ⟨A101, n102, c103, h104, hA.sub _ rfl, hS⟩ ?_
 intro N473 s473 o473 hF N473_ T473_ ac w hLab
 obtain ⟨l288, x293, x294⟩ := s473
 replace hF : column_Reader_Uint_l1 a1 l288 x293 x294 = some o473 := hF
 unfold column_Reader_Uint_l1 at hF
 try dsimp only at hLab
 obtain ⟨A289, n290, c291, h292, hA, hS⟩ := hLab
 refine wp_seq_k fun K475 hK475 => ?_
 refine wp_block_k fun Kx476 hKx476 => ?_
 refine ws fun K477 hK477 => ?_
 refine x_m hA rfl fun ac hA => ?_
 replace hS := SH.pure_ h292 hS
 replace hS := hS.pk 1
 replace hS := obj106_mk (x := (⟨l288⟩ : S106)) hS
 obtain ⟨y478, h479, hF⟩ := bnd hF
 rcases y478 with y478 | y478
 rotate_left
 ·replace hF := sum_r hF
  refine x_callp (vs := #[.pointer (some ⟨g0, 0, none⟩)]) en76 hA (RetS.rf (F_column_Reader_Byte (L := L) (⟨l288⟩ : S106) g0 h479 (qz + 0) hZ hS)) (fun w hR => ?_) rfl rfl rfl rfl rfl
  replace hS := hR
  obtain ⟨A480, n481, c482, hS⟩ := obj106_open hS
  replace hS := hS.pk 1
  have hQ0 := SH.unpure hS
  clear hS
  obtain ⟨h483, hS⟩ := hQ0
  replace hS := SH.pure_ h483 hS
  replace hS := hS.pk 1
  replace hS := obj106_mk (x := y478) hS
  cases hF
  have ht := T473_ _ rfl
  subst ht
  replace hF := hR473
  replace hF : some (.inr y478) = some y := hF
  cases hF
  exact hQp _ rfl _ _ hA.defers hS
 replace hF := sum_l hF
 refine x_callw (vs := #[.pointer (some ⟨g0, 0, none⟩)]) en76 hA (RetS.lf (F_column_Reader_Byte (L := L) (⟨l288⟩ : S106) g0 h479 (qz + 0) hZ hS)) (fun v ac w hR hA => ?_) rfl rfl rfl rfl rfl rfl rfl
 obtain ⟨rfl, hS⟩ := hR
 obtain ⟨A484, n485, c486, hS⟩ := obj106_open hS
 replace hS := hS.pk 1
 have hQ0 := SH.unpure hS
 clear hS
 obtain ⟨h487, hS⟩ := hQ0
 refine x_m hA rfl fun ac hA => ?_
 refine wn (hK477 _ _ ?_)
 refine wp_seq_k fun K488 hK488 => ?_
 have hj1 : ∀ (l521 : (List Int)), column_Reader_Uint_j1 a1 x293 x294 y478 l521 = some o473 → ∀ (A522 : Option Addr) (n523 : Nat) (c524 : Nat) (h525 : Imm Z wz (kI .u8) A522 n523 c524 l521) (ac : Act) (w : World), FR 48 [] ac [(0, .pointer (some ⟨g0, 0, none⟩)), (1, .int .u64 a1), (5, .int .u64 x293), (6, .int .i64 x294), (7, .int .u8 y478.1)] → SH r (blk g0 106 [.slice A522 n523 c524] :: L) w → K488 ac w := by
  intro l521 hF A522 n523 c524 h525 ac w hA hS
  unfold column_Reader_Uint_j1 at hF
  refine hK488 _ _ ?_
  refine ws fun K526 hK526 => ?_
  refine x_m hA rfl fun ac hA => ?_
  refine x_m hA rfl fun ac hA => ?_
  obtain ⟨x527, h528, hF⟩ := ltt_ hF
  refine x_v (v := .int .u8 x527) hA (rv_i h528 (r_and rfl (hA.ev rfl) (hA.ev rfl))) rfl fun ac hA => ?_
  obtain ⟨x529, h530, hF⟩ := ltt_ hF
  refine x_v (v := .int .u64 x529) hA (rv_i h530 (r_convI Tryd.underlying5 Tryd.underlying31 rfl (hA.ev rfl))) rfl fun ac hA => ?_
  refine x_m hA rfl fun ac hA => ?_
  obtain ⟨x531, h532, hF⟩ := ltt_ hF
  refine x_v (v := .int .i64 x531) hA (rv_i h532 (r_mul rfl (hA.ev rfl) (hA.ev rfl))) rfl fun ac hA => ?_
  obtain ⟨h533, hF⟩ := chk_some hF
  obtain ⟨x534, h535, hF⟩ := ltt_ hF
  refine x_v (v := .int .u64 x534) hA (rv_i h535 (r_shl rfl (hA.ev rfl) (hA.ev rfl) h533)) rfl fun ac hA => ?_
  obtain ⟨x536, h537, hF⟩ := ltt_ hF
  refine x_v (v := .int .u64 x536) hA (rv_i h537 (r_or rfl (hA.ev rfl) (hA.ev rfl))) rfl fun ac hA => ?_
  refine x_m hA rfl fun ac hA => ?_
  refine wn (hK526 _ _ ?_)
  refine ws fun K538 hK538 => ?_
  refine x_m hA rfl fun ac hA => ?_
  refine x_v hA (r_ltI rfl (hA.ev rfl) (hA.ev rfl)) rfl fun ac hA => ?_
  refine wn (hK538 _ _ ?_)
  refine c_if hA rfl (fun hb539 => ?_) fun hb539 => ?_
  ·replace hF := ift hb539 hF
   refine wp_seq_k fun K540 hK540 => ?_
   have hj2 : ∀ (l573 : (List Int)), column_Reader_Uint_j2 x536 l573 = some o473 → ∀ (A574 : Option Addr) (n575 : Nat) (c576 : Nat) (h577 : Imm Z wz (kI .u8) A574 n575 c576 l573) (ac : Act) (w : World), FR 48 [] ac [(0, .pointer (some ⟨g0, 0, none⟩)), (5, .int .u64 x536)] → SH r (blk g0 106 [.slice A574 n575 c576] :: L) w → K540 ac w := by
    intro l573 hF A574 n575 c576 h577 ac w hA hS
    unfold column_Reader_Uint_j2 at hF
    refine hK540 _ _ ?_
    refine ws fun K578 hK578 => ?_
    refine x_m hA rfl fun ac hA => ?_
    refine x_m hA rfl fun ac hA => ?_
    refine wn (hK578 _ _ ?_)
    refine wp_ret ?_
    replace hS := SH.pure_ h577 hS
    replace hS := hS.pk 1
    replace hS := obj106_mk (x := (⟨l573⟩ : S106)) hS
    cases hF
    have ht := T473_ _ rfl
    subst ht
    replace hF := hR473
    replace hF : some (.inl (x536, (⟨l573⟩ : S106))) = some y := hF
    cases hF
    refine hQ _ rfl _ _ ?_
    refine lv Tryd.results58 hA rfl ?_
    exact ⟨rfl, hS⟩
   refine wp_reg ?_
   refine x_m hA rfl fun ac hA => ?_
   refine x_m hA rfl fun ac hA => ?_
   refine x_m hA rfl fun ac hA => ?_
   refine x_v hA (r_leI rfl (hA.ev rfl) (hA.ev rfl)) rfl fun ac hA => ?_
   refine x_m hA rfl fun ac hA => ?_
   refine bcase (b := decide (x536 ≤ a1)) (fun hb579 => ?_) fun hb579 => ?_
   ·replace hF := ift hb579 hF
    refine x_on hb579 hA ?_ rfl rfl rfl
    refine x_m hA rfl fun ac hA => ?_
    refine x_on hb579 hA ?_ rfl rfl rfl
    refine x_v hA (r_eqI rfl (hA.ev rfl) (hA.ev rfl)) rfl fun ac hA => ?_
    refine x_on hb579 hA ?_ rfl rfl rfl
    refine x_m hA rfl fun ac hA => ?_
    refine bcase (b := x294 == 0) (fun hb580 => ?_) fun hb580 => ?_
    ·replace hF := ift hb580 hF
     refine x_off hb580 hA (fun ac hA => ?_) rfl rfl rfl rfl rfl
     refine x_off hb580 hA (fun ac hA => ?_) rfl rfl rfl rfl rfl
     refine x_on hb579 hA ?_ rfl rfl rfl
     refine x_pickt hb580 hA (fun ac hA => ?_) rfl rfl rfl rfl rfl rfl
     refine x_pickt hb579 hA (fun ac hA => ?_) rfl rfl rfl rfl rfl rfl
     replace hS := SH.pure_ h525 hS
     replace hS := hS.pk 1
     replace hS := obj106_mk (x := (⟨l521⟩ : S106)) hS
     obtain ⟨y581, h582, hF⟩ := bnd hF
     rcases y581 with y581 | y581
     rotate_left
     ·replace hF := sum_r hF
      refine x_callp (vs := #[.pointer (some ⟨g0, 0, none⟩), .bool true]) en59 hA (RetS.rf (F_column_Reader_Check (L := L) (⟨l521⟩ : S106) true g0 h582 (qz + 0) hZ hS)) (fun w hR => ?_) rfl rfl rfl rfl rfl
      replace hS := hR
      obtain ⟨A583, n584, c585, hS⟩ := obj106_open hS
      replace hS := hS.pk 1
      have hQ0 := SH.unpure hS
      clear hS
      obtain ⟨h586, hS⟩ := hQ0
      replace hS := SH.pure_ h586 hS
      replace hS := hS.pk 1
      replace hS := obj106_mk (x := y581) hS
      cases hF
      have ht := T473_ _ rfl
      subst ht
      replace hF := hR473
      replace hF : some (.inr y581) = some y := hF
      cases hF
      exact hQp _ rfl _ _ hA.defers hS
     replace hF := sum_l hF
     refine x_callw (vs := #[.pointer (some ⟨g0, 0, none⟩), .bool true]) en59 hA (RetS.lf (F_column_Reader_Check (L := L) (⟨l521⟩ : S106) true g0 h582 (qz + 0) hZ hS)) (fun v ac w hR hA => ?_) rfl rfl rfl rfl rfl rfl rfl
     obtain ⟨rfl, hS⟩ := hR
     obtain ⟨A587, n588, c589, hS⟩ := obj106_open hS
     replace hS := hS.pk 1
     have hQ0 := SH.unpure hS
     clear hS
     obtain ⟨h590, hS⟩ := hQ0
     refine wpList_nil ?_
     exact hj2 y581.f0 hF A587 n588 c589 h590 ac w (hA.sub _ rfl) hS
    replace hF := iff' hb580 hF
    refine x_on hb580 hA ?_ rfl rfl rfl
    refine x_m hA rfl fun ac hA => ?_
    refine x_on hb580 hA ?_ rfl rfl rfl
    refine x_v hA (r_gtI rfl (hA.ev rfl) (hA.ev rfl)) rfl fun ac hA => ?_
    refine x_on hb579 hA ?_ rfl rfl rfl
    refine x_pickf hb580 hA (fun ac hA => ?_) rfl rfl rfl rfl rfl rfl
    refine x_pickt hb579 hA (fun ac hA => ?_) rfl rfl rfl rfl rfl rfl
    replace hS := SH.pure_ h525 hS
    replace hS := hS.pk 1
    replace hS := obj106_mk (x := (⟨l521⟩ : S106)) hS
    obtain ⟨y591, h592, hF⟩ := bnd hF
    rcases y591 with y591 | y591
    rotate_left
    ·replace hF := sum_r hF
     refine x_callp (vs := #[.pointer (some ⟨g0, 0, none⟩), .bool (decide (0 < y478.1))]) en59 hA (RetS.rf (F_column_Reader_Check (L := L) (⟨l521⟩ : S106) (decide (0 < y478.1)) g0 h592 (qz + 0) hZ hS)) (fun w hR => ?_) rfl rfl rfl rfl rfl
     replace hS := hR
     obtain ⟨A593, n594, c595, hS⟩ := obj106_open hS
     replace hS := hS.pk 1
     have hQ0 := SH.unpure hS
     clear hS
     obtain ⟨h596, hS⟩ := hQ0
     replace hS := SH.pure_ h596 hS
     replace hS := hS.pk 1
     replace hS := obj106_mk (x := y591) hS
     cases hF
     have ht := T473_ _ rfl
     subst ht
     replace hF := hR473
     replace hF : some (.inr y591) = some y := hF
     cases hF
     exact hQp _ rfl _ _ hA.defers hS
    replace hF := sum_l hF
    refine x_callw (vs := #[.pointer (some ⟨g0, 0, none⟩), .bool (decide (0 < y478.1))]) en59 hA (RetS.lf (F_column_Reader_Check (L := L) (⟨l521⟩ : S106) (decide (0 < y478.1)) g0 h592 (qz + 0) hZ hS)) (fun v ac w hR hA => ?_) rfl rfl rfl rfl rfl rfl rfl
    obtain ⟨rfl, hS⟩ := hR
    obtain ⟨A597, n598, c599, hS⟩ := obj106_open hS
    replace hS := hS.pk 1
    have hQ0 := SH.unpure hS
    clear hS
    obtain ⟨h600, hS⟩ := hQ0
    refine wpList_nil ?_
    exact hj2 y591.f0 hF A597 n598 c599 h600 ac w (hA.sub _ rfl) hS
   replace hF := iff' hb579 hF
   refine x_off hb579 hA (fun ac hA => ?_) rfl rfl rfl rfl rfl
   refine x_off hb579 hA (fun ac hA => ?_) rfl rfl rfl rfl rfl
   refine x_off hb579 hA (fun ac hA => ?_) rfl rfl rfl rfl rfl
   refine x_offU hA (fun ac hA => ?_) rfl rfl rfl rfl rfl
   refine x_offU hA (fun ac hA => ?_) rfl rfl rfl rfl rfl
   refine x_off hb579 hA (fun ac hA => ?_) rfl rfl rfl rfl rfl
   refine x_pickf hb579 hA (fun ac hA => ?_) rfl rfl rfl rfl rfl rfl
   replace hS := SH.pure_ h525 hS
   replace hS := hS.pk 1
   replace hS := obj106_mk (x := (⟨l521⟩ : S106)) hS
   obtain ⟨y601, h602, hF⟩ := bnd hF
   rcases y601 with y601 | y601
   rotate_left
   ·replace hF := sum_r hF
    refine x_callp (vs := #[.pointer (some ⟨g0, 0, none⟩), .bool false]) en59 hA (RetS.rf (F_column_Reader_Check (L := L) (⟨l521⟩ : S106) false g0 h602 (qz + 0) hZ hS)) (fun w hR => ?_) rfl rfl rfl rfl rfl
    replace hS := hR
    obtain ⟨A603, n604, c605, hS⟩ := obj106_open hS
    replace hS := hS.pk 1
    have hQ0 := SH.unpure hS
    clear hS
    obtain ⟨h606, hS⟩ := hQ0
    replace hS := SH.pure_ h606 hS
    replace hS := hS.pk 1
    replace hS := obj106_mk (x := y601) hS
    cases hF
    have ht := T473_ _ rfl
    subst ht
    replace hF := hR473
    replace hF : some (.inr y601) = some y := hF
    cases hF
    exact hQp _ rfl _ _ hA.defers hS
   replace hF := sum_l hF
   refine x_callw (vs := #[.pointer (some ⟨g0, 0, none⟩), .bool false]) en59 hA (RetS.lf (F_column_Reader_Check (L := L) (⟨l521⟩ : S106) false g0 h602 (qz + 0) hZ hS)) (fun v ac w hR hA => ?_) rfl rfl rfl rfl rfl rfl rfl
   obtain ⟨rfl, hS⟩ := hR
   obtain ⟨A607, n608, c609, hS⟩ := obj106_open hS
   replace hS := hS.pk 1
   have hQ0 := SH.unpure hS
   clear hS
   obtain ⟨h610, hS⟩ := hQ0
   refine wpList_nil ?_
   exact hj2 y601.f0 hF A607 n608 c609 h610 ac w (hA.sub _ rfl) hS
  replace hF := iff' hb539 hF
  refine wp_skip ?_
  refine hKx476 _ _ ?_
  refine hK475 _ _ ?_
  refine wp_reg ?_
  refine x_m hA rfl fun ac hA => ?_
  obtain ⟨x611, h612, hF⟩ := ltt_ hF
  refine x_v (v := .int .i64 x611) hA (rv_i h612 (r_add rfl (hA.ev rfl) (hA.ev rfl))) rfl fun ac hA => ?_
  refine x_m hA rfl fun ac hA => ?_
  refine wpList_nil ?_
  cases hF
  exact ⟨_, N473_ _ rfl, A522, n523, c524, h525, hA.sub _ rfl, hS⟩
 refine wp_reg ?_
 refine x_m hA rfl fun ac hA => ?_
 refine x_m hA rfl fun ac hA => ?_
 refine x_v hA (r_ltI rfl (hA.ev rfl) (hA.ev rfl)) rfl fun ac hA => ?_
 refine x_m hA rfl fun ac hA => ?_
 refine bcase (b := decide (x294 < 9)) (fun hb613 => ?_) fun hb613 => ?_
 ·replace hF := ift hb613 hF
  refine x_off hb613 hA (fun ac hA => ?_) rfl rfl rfl rfl rfl
  refine x_off hb613 hA (fun ac hA => ?_) rfl rfl rfl rfl rfl
  refine x_off hb613 hA (fun ac hA => ?_) rfl rfl rfl rfl rfl
  refine x_offU hA (fun ac hA => ?_) rfl rfl rfl rfl rfl
  refine x_offU hA (fun ac hA => ?_) rfl rfl rfl rfl rfl
  refine x_off hb613 hA (fun ac hA => ?_) rfl rfl rfl rfl rfl
  refine x_pickt hb613 hA (fun ac hA => ?_) rfl rfl rfl rfl rfl rfl
  replace hS := SH.pure_ h487 hS
  replace hS := hS.pk 1
  replace hS := obj106_mk (x := y478.2) hS
  obtain ⟨y614, h615, hF⟩ := bnd hF
  rcases y614 with y614 | y614
  rotate_left
  ·replace hF := sum_r hF
   refine x_callp (vs := #[.pointer (some ⟨g0, 0, none⟩), .bool true]) en59 hA (RetS.rf (F_column_Reader_Check (L := L) y478.2 true g0 h615 (qz + 0) hZ hS)) (fun w hR => ?_) rfl rfl rfl rfl rfl
   replace hS := hR
   obtain ⟨A616, n617, c618, hS⟩ := obj106_open hS
   replace hS := hS.pk 1
   have hQ0 := SH.unpure hS
   clear hS
   obtain ⟨h619, hS⟩ := hQ0
   replace hS := SH.pure_ h619 hS
   replace hS := hS.pk 1
   replace hS := obj106_mk (x := y614) hS
   cases hF
   have ht := T473_ _ rfl
   subst ht
   replace hF := hR473
   replace hF : some (.inr y614) = some y := hF
   cases hF
   exact hQp _ rfl _ _ hA.defers hS
  replace hF := sum_l hF
  refine x_callw (vs := #[.pointer (some ⟨g0, 0, none⟩), .bool true]) en59 hA (RetS.lf (F_column_Reader_Check (L := L) y478.2 true g0 h615 (qz + 0) hZ hS)) (fun v ac w hR hA => ?_) rfl rfl rfl rfl rfl rfl rfl
  obtain ⟨rfl, hS⟩ := hR
  obtain ⟨A620, n621, c622, hS⟩ := obj106_open hS
  replace hS := hS.pk 1
  have hQ0 := SH.unpure hS
  clear hS
  obtain ⟨h623, hS⟩ := hQ0
  refine wpList_nil ?_
  exact hj1 y614.f0 hF A620 n621 c622 h623 ac w (hA.sub _ rfl) hS
 replace hF := iff' hb613 hF
 refine x_on hb613 hA ?_ rfl rfl rfl
 refine x_m hA rfl fun ac hA => ?_
 refine x_on hb613 hA ?_ rfl rfl rfl
 refine x_v hA (r_eqI rfl (hA.ev rfl) (hA.ev rfl)) rfl fun ac hA => ?_
 refine x_on hb613 hA ?_ rfl rfl rfl
 refine x_m hA rfl fun ac hA => ?_
 refine bcase (b := x294 == 9) (fun hb624 => ?_) fun hb624 => ?_
 ·replace hF := ift hb624 hF
  refine x_on hb624 hA ?_ rfl rfl rfl
  refine x_m hA rfl fun ac hA => ?_
  refine x_on hb624 hA ?_ rfl rfl rfl
  refine x_v hA (r_ltI rfl (hA.ev rfl) (hA.ev rfl)) rfl fun ac hA => ?_
  refine x_on hb613 hA ?_ rfl rfl rfl
  refine x_pickt hb624 hA (fun ac hA => ?_) rfl rfl rfl rfl rfl rfl
  refine x_pickf hb613 hA (fun ac hA => ?_) rfl rfl rfl rfl rfl rfl
  replace hS := SH.pure_ h487 hS
  replace hS := hS.pk 1
  replace hS := obj106_mk (x := y478.2) hS
  obtain ⟨y625, h626, hF⟩ := bnd hF
  rcases y625 with y625 | y625
  rotate_left
  ·replace hF := sum_r hF
   refine x_callp (vs := #[.pointer (some ⟨g0, 0, none⟩), .bool (decide (y478.1 < 2))]) en59 hA (RetS.rf (F_column_Reader_Check (L := L) y478.2 (decide (y478.1 < 2)) g0 h626 (qz + 0) hZ hS)) (fun w hR => ?_) rfl rfl rfl rfl rfl
   replace hS := hR
   obtain ⟨A627, n628, c629, hS⟩ := obj106_open hS
   replace hS := hS.pk 1
   have hQ0 := SH.unpure hS
   clear hS
   obtain ⟨h630, hS⟩ := hQ0
   replace hS := SH.pure_ h630 hS
   replace hS := hS.pk 1
   replace hS := obj106_mk (x := y625) hS
   cases hF
   have ht := T473_ _ rfl
   subst ht
   replace hF := hR473
   replace hF : some (.inr y625) = some y := hF
   cases hF
   exact hQp _ rfl _ _ hA.defers hS
  replace hF := sum_l hF
  refine x_callw (vs := #[.pointer (some ⟨g0, 0, none⟩), .bool (decide (y478.1 < 2))]) en59 hA (RetS.lf (F_column_Reader_Check (L := L) y478.2 (decide (y478.1 < 2)) g0 h626 (qz + 0) hZ hS)) (fun v ac w hR hA => ?_) rfl rfl rfl rfl rfl rfl rfl
  obtain ⟨rfl, hS⟩ := hR
  obtain ⟨A631, n632, c633, hS⟩ := obj106_open hS
  replace hS := hS.pk 1
  have hQ0 := SH.unpure hS
  clear hS
  obtain ⟨h634, hS⟩ := hQ0
  refine wpList_nil ?_
  exact hj1 y625.f0 hF A631 n632 c633 h634 ac w (hA.sub _ rfl) hS
 replace hF := iff' hb624 hF
 refine x_off hb624 hA (fun ac hA => ?_) rfl rfl rfl rfl rfl
 refine x_off hb624 hA (fun ac hA => ?_) rfl rfl rfl rfl rfl
 refine x_on hb613 hA ?_ rfl rfl rfl
 refine x_pickf hb624 hA (fun ac hA => ?_) rfl rfl rfl rfl rfl rfl
 refine x_pickf hb613 hA (fun ac hA => ?_) rfl rfl rfl rfl rfl rfl
 replace hS := SH.pure_ h487 hS
 replace hS := hS.pk 1
 replace hS := obj106_mk (x := y478.2) hS
 obtain ⟨y635, h636, hF⟩ := bnd hF
 rcases y635 with y635 | y635
 rotate_left
 ·replace hF := sum_r hF
  refine x_callp (vs := #[.pointer (some ⟨g0, 0, none⟩), .bool false]) en59 hA (RetS.rf (F_column_Reader_Check (L := L) y478.2 false g0 h636 (qz + 0) hZ hS)) (fun w hR => ?_) rfl rfl rfl rfl rfl
  replace hS := hR
  obtain ⟨A637, n638, c639, hS⟩ := obj106_open hS
  replace hS := hS.pk 1
  have hQ0 := SH.unpure hS
  clear hS
  obtain ⟨h640, hS⟩ := hQ0
  replace hS := SH.pure_ h640 hS
  replace hS := hS.pk 1
  replace hS := obj106_mk (x := y635) hS
  cases hF
  have ht := T473_ _ rfl
  subst ht
  replace hF := hR473
  replace hF : some (.inr y635) = some y := hF
  cases hF
  exact hQp _ rfl _ _ hA.defers hS
 replace hF := sum_l hF
 refine x_callw (vs := #[.pointer (some ⟨g0, 0, none⟩), .bool false]) en59 hA (RetS.lf (F_column_Reader_Check (L := L) y478.2 false g0 h636 (qz + 0) hZ hS)) (fun v ac w hR hA => ?_) rfl rfl rfl rfl rfl rfl rfl
 obtain ⟨rfl, hS⟩ := hR
 obtain ⟨A641, n642, c643, hS⟩ := obj106_open hS
 replace hS := hS.pk 1
 have hQ0 := SH.unpure hS
 clear hS
 obtain ⟨h644, hS⟩ := hQ0
 refine wpList_nil ?_
 exact hj1 y635.f0 hF A641 n642 c643 h644 ac w (hA.sub _ rfl) hS
theorem F_column_Reader_Int {r : World} {L : List HP} {w : World} {Z : Nat → Prop} {wz : World} (a0 : S106) (g0 : Nat) {y : ((Int × S106) ⊕ (S106))} (hF : column_Reader_Int a0 = some y) (qz : Nat) (hZ : L[qz]? = some (zone Z wz)) (hS : SH r (obj106 Z wz g0 a0 :: L) w) :
  RetS Tryd.prog 60 #[.pointer (some ⟨g0, 0, none⟩)] w badC y (fun y v w' => v = .int .i64 y.1 ∧ SH r (obj106 Z wz g0 y.2 :: L) w') (fun y w' => SH r (obj106 Z wz g0 y :: L) w') := by
 refine enterS Tryd.func60 rfl Tryd.ntmps60 [(0, .pointer (some ⟨g0, 0, none⟩))] rfl (by simp) ?_
 intro ac hA Qf hQ hQn hQp
 unfold column_Reader_Int at hF
 obtain ⟨A101, n102, c103, hS⟩ := obj106_open hS
 replace hS := hS.pk 1
 have hQ0 := SH.unpure hS
 clear hS
 obtain ⟨h104, hS⟩ := hQ0
 refine ws fun K105 hK105 => ?_
 refine x_m hA rfl fun ac hA => ?_
 refine wn (hK105 _ _ ?_)
 refine ws fun K106 hK106 => ?_
 refine x_m hA rfl fun ac hA => ?_
 replace hS := SH.pure_ h104 hS
 replace hS := hS.pk 1
 replace hS := obj106_mk (x := a0) hS
 obtain ⟨y107, h108, hF⟩ := bnd hF
 rcases y107 with y107 | y107
 rotate_left
 ·replace hF := sum_r hF
  refine x_callp (vs := #[.pointer (some ⟨g0, 0, none⟩), .int .u64 18446744073709551615]) en58 hA (RetS.rf (F_column_Reader_Uint (L := L) a0 18446744073709551615 g0 h108 (qz + 0) hZ hS)) (fun w hR => ?_) rfl rfl rfl rfl rfl
  replace hS := hR
  obtain ⟨A109, n110, c111, hS⟩ := obj106_open hS
  replace hS := hS.pk 1
  have hQ0 := SH.unpure hS
  clear hS
  obtain ⟨h112, hS⟩ := hQ0
  replace hS := SH.pure_ h112 hS
  replace hS := hS.pk 1
  replace hS := obj106_mk (x := y107) hS
  cases hF
  exact hQp _ rfl _ _ hA.defers hS
 replace hF := sum_l hF
 refine x_callw (vs := #[.pointer (some ⟨g0, 0, none⟩), .int .u64 18446744073709551615]) en58 hA (RetS.lf (F_column_Reader_Uint (L := L) a0 18446744073709551615 g0 h108 (qz + 0) hZ hS)) (fun v ac w hR hA => ?_) rfl rfl rfl rfl rfl rfl rfl
 obtain ⟨rfl, hS⟩ := hR
 obtain ⟨A113, n114, c115, hS⟩ := obj106_open hS
 replace hS := hS.pk 1
 have hQ0 := SH.unpure hS
 clear hS
 obtain ⟨h116, hS⟩ := hQ0
 refine x_m hA rfl fun ac hA => ?_
 refine wn (hK106 _ _ ?_)
 refine ws fun K117 hK117 => ?_
 refine x_m hA rfl fun ac hA => ?_
 obtain ⟨x118, h119, hF⟩ := ltt_ hF
 refine x_v (v := .int .u64 x118) hA (rv_i h119 (r_shr rfl (hA.ev rfl) (hA.ev rfl) (by decide))) rfl fun ac hA => ?_
 obtain ⟨x120, h121, hF⟩ := ltt_ hF
 refine x_v (v := .int .i64 x120) hA (rv_i h121 (r_convI Tryd.underlying31 Tryd.underlying2 rfl (hA.ev rfl))) rfl fun ac hA => ?_
 refine x_m hA rfl fun ac hA => ?_
 obtain ⟨x122, h123, hF⟩ := ltt_ hF
 refine x_v (v := .int .u64 x122) hA (rv_i h123 (r_and rfl (hA.ev rfl) (hA.ev rfl))) rfl fun ac hA => ?_
 obtain ⟨x124, h125, hF⟩ := ltt_ hF
 refine x_v (v := .int .i64 x124) hA (rv_i h125 (r_convI Tryd.underlying31 Tryd.underlying2 rfl (hA.ev rfl))) rfl fun ac hA => ?_
 refine x_v hA (r_neg rfl (hA.ev rfl)) rfl fun ac hA => ?_
 obtain ⟨x126, h127, hF⟩ := ltt_ hF
 refine x_v (v := .int .i64 x126) hA (rv_i h127 (r_xor rfl (hA.ev rfl) (hA.ev rfl))) rfl fun ac hA => ?_
 refine x_m hA rfl fun ac hA => ?_
 refine wn (hK117 _ _ ?_)
 refine wp_ret ?_
 replace hS := SH.pure_ h116 hS
 replace hS := hS.pk 1
 replace hS := obj106_mk (x := y107.2) hS
 cases hF
 refine hQ _ rfl _ _ ?_
 refine lv Tryd.results60 hA rfl ?_
 exact ⟨rfl, hS⟩
theorem F_column_Reader_Text {r : World} {L : List HP} {w : World} {Z : Nat → Prop} {wz : World} (a0 : S106) (a1 : Int) (g0 : Nat) {y : (((List UInt8) × S106) ⊕ (S106))} (hF : column_Reader_Text a0 a1 = some y) (qz : Nat) (hZ : L[qz]? = some (zone Z wz)) (hS : SH r (obj106 Z wz g0 a0 :: L) w) :
  RetS Tryd.prog 61 #[.pointer (some ⟨g0, 0, none⟩), .int .i64 a1] w badC y (fun y v w' => v = str y.1 ∧ SH r (obj106 Z wz g0 y.2 :: L) w') (fun y w' => SH r (obj106 Z wz g0 y :: L) w') := by
 refine enterS Tryd.func61 rfl Tryd.ntmps61 [(0, .pointer (some ⟨g0, 0, none⟩)), (1, .int .i64 a1)] rfl (by simp) ?_
 intro ac hA Qf hQ hQn hQp
 unfold column_Reader_Text at hF
 obtain ⟨A101, n102, c103, hS⟩ := obj106_open hS
 replace hS := hS.pk 1
 have hQ0 := SH.unpure hS
 clear hS
 obtain ⟨h104, hS⟩ := hQ0
 refine ws fun K105 hK105 => ?_
 refine x_m hA rfl fun ac hA => ?_
 refine wn (hK105 _ _ ?_)
 refine ws fun K106 hK106 => ?_
 refine x_m hA rfl fun ac hA => ?_
 refine x_m hA rfl fun ac hA => ?_
 obtain ⟨x107, h108, hF⟩ := ltt_ hF
 refine x_v (v := .int .u64 x107) hA (rv_i h108 (r_convI Tryd.underlying3 Tryd.underlying31 rfl (hA.ev rfl))) rfl fun ac hA => ?_
 replace hS := SH.pure_ h104 hS
 replace hS := hS.pk 1
 replace hS := obj106_mk (x := a0) hS
 obtain ⟨y109, h110, hF⟩ := bnd hF
 rcases y109 with y109 | y109
 rotate_left
 ·replace hF := sum_r hF
  refine x_callp (vs := #[.pointer (some ⟨g0, 0, none⟩), .int .u64 x107]) en58 hA (RetS.rf (F_column_Reader_Uint (L := L) a0 x107 g0 h110 (qz + 0) hZ hS)) (fun w hR => ?_) rfl rfl rfl rfl rfl
  replace hS := hR
  obtain ⟨A111, n112, c113, hS⟩ := obj106_open hS
  replace hS := hS.pk 1
  have hQ0 := SH.unpure hS
  clear hS
  obtain ⟨h114, hS⟩ := hQ0
  replace hS := SH.pure_ h114 hS
  replace hS := hS.pk 1
  replace hS := obj106_mk (x := y109) hS
  cases hF
  exact hQp _ rfl _ _ hA.defers hS
 replace hF := sum_l hF
 refine x_callw (vs := #[.pointer (some ⟨g0, 0, none⟩), .int .u64 x107]) en58 hA (RetS.lf (F_column_Reader_Uint (L := L) a0 x107 g0 h110 (qz + 0) hZ hS)) (fun v ac w hR hA => ?_) rfl rfl rfl rfl rfl rfl rfl
 obtain ⟨rfl, hS⟩ := hR
 obtain ⟨A115, n116, c117, hS⟩ := obj106_open hS
 replace hS := hS.pk 1
 have hQ0 := SH.unpure hS
 clear hS
 obtain ⟨h118, hS⟩ := hQ0
 refine x_m hA rfl fun ac hA => ?_
 refine wn (hK106 _ _ ?_)
 refine ws fun K119 hK119 => ?_
 refine x_m hA rfl fun ac hA => ?_
 refine x_m hA rfl fun ac hA => ?_
 refine x_m hA rfl fun ac hA => ?_
 refine x_v hA (r_nilCheck rfl (hA.ev rfl)) rfl fun ac hA => ?_
 refine x_fab fa106_0 hA (fun ac hA => ?_) rfl rfl rfl rfl rfl
 refine x_ld Tryd.underlying24 (hS.cell 0 rfl 0 _ rfl) hA (fun ac hA => ?_) rfl rfl rfl rfl rfl rfl
 refine x_len Tryd.underlying24 (hS.rdl 1 (h118.rdl qz hZ) rfl).2.1 hA (fun ac hA => ?_) rfl rfl rfl rfl rfl
 obtain ⟨x120, h121, hF⟩ := ltt_ hF
 refine x_v (v := .int .u64 x120) hA (rv_i h121 (r_convI Tryd.underlying3 Tryd.underlying31 rfl (hA.ev rfl))) rfl fun ac hA => ?_
 refine x_v hA (r_leI rfl (hA.ev rfl) (hA.ev rfl)) rfl fun ac hA => ?_
 replace hS := SH.pure_ h118 hS
 replace hS := hS.pk 1
 replace hS := obj106_mk (x := y109.2) hS
 obtain ⟨y122, h123, hF⟩ := bnd hF
 rcases y122 with y122 | y122
 rotate_left
 ·replace hF := sum_r hF
  refine x_callp (vs := #[.pointer (some ⟨g0, 0, none⟩), .bool (decide (y109.1 ≤ x120))]) en59 hA (RetS.rf (F_column_Reader_Check (L := L) y109.2 (decide (y109.1 ≤ x120)) g0 h123 (qz + 0) hZ hS)) (fun w hR => ?_) rfl rfl rfl rfl rfl
  replace hS := hR
  obtain ⟨A124, n125, c126, hS⟩ := obj106_open hS
  replace hS := hS.pk 1
  have hQ0 := SH.unpure hS
  clear hS
  obtain ⟨h127, hS⟩ := hQ0
  replace hS := SH.pure_ h127 hS
  replace hS := hS.pk 1
  replace hS := obj106_mk (x := y122) hS
  cases hF
  exact hQp _ rfl _ _ hA.defers hS
 replace hF := sum_l hF
 refine x_callw (vs := #[.pointer (some ⟨g0, 0, none⟩), .bool (decide (y109.1 ≤ x120))]) en59 hA (RetS.lf (F_column_Reader_Check (L := L) y109.2 (decide (y109.1 ≤ x120)) g0 h123 (qz + 0) hZ hS)) (fun v ac w hR hA => ?_) rfl rfl rfl rfl rfl rfl rfl
 obtain ⟨rfl, hS⟩ := hR
 obtain ⟨A128, n129, c130, hS⟩ := obj106_open hS
 replace hS := hS.pk 1
 have hQ0 := SH.unpure hS
 clear hS
 obtain ⟨h131, hS⟩ := hQ0
 refine wn (hK119 _ _ ?_)
 refine ws fun K132 hK132 => ?_
 refine x_m hA rfl fun ac hA => ?_
 refine x_v hA (r_nilCheck rfl (hA.ev rfl)) rfl fun ac hA => ?_
 refine x_fab fa106_0 hA (fun ac hA => ?_) rfl rfl rfl rfl rfl
 refine x_ld Tryd.underlying24 (hS.cell 0 rfl 0 _ rfl) hA (fun ac hA => ?_) rfl rfl rfl rfl rfl rfl
 refine x_m hA rfl fun ac hA => ?_
 obtain ⟨l133, h134, hF⟩ := bnd hF
 obtain ⟨A137, n138, c139, e136, h135⟩ := imm_hc h131 h134
 refine x_v (v := .slice A137 n138 c139) hA (rv_e e136 (r_slice_h Tryd.underlying24 sz5 rfl (hA.ev rfl) (hA.ev rfl) (cutq (hS.rdl 1 (h131.rdl qz hZ) rfl) h134).2.2.2.2.1 (cutq (hS.rdl 1 (h131.rdl qz hZ) rfl) h134).2.2.1)) rfl fun ac hA => ?_
 refine x_b2s Tryd.underlying24 Tryd.underlying5 Tryd.underlying9 (hS.rdl 1 (h135.rdl qz hZ) rfl) hA (fun ac hA => ?_) rfl rfl rfl rfl rfl
 refine x_m hA rfl fun ac hA => ?_
 refine wn (hK132 _ _ ?_)
 refine ws fun K140 hK140 => ?_
 refine x_m hA rfl fun ac hA => ?_
 refine x_m hA rfl fun ac hA => ?_
 refine x_v hA (r_nilCheck rfl (hA.ev rfl)) rfl fun ac hA => ?_
 refine x_fab fa106_0 hA (fun ac hA => ?_) rfl rfl rfl rfl rfl
 refine x_ld Tryd.underlying24 (hS.cell 0 rfl 0 _ rfl) hA (fun ac hA => ?_) rfl rfl rfl rfl rfl rfl
 refine x_m hA rfl fun ac hA => ?_
 obtain ⟨l141, h142, hF⟩ := bnd hF
 obtain ⟨A145, n146, c147, e144, h143⟩ := imm_lc h131 h142
 refine x_v (v := .slice A145 n146 c147) hA (rv_e e144 (r_slice_l Tryd.underlying24 sz5 rfl (hA.ev rfl) (hA.ev rfl) (cutq (hS.rdl 1 (h131.rdl qz hZ) rfl) h142).1 (cutq (hS.rdl 1 (h131.rdl qz hZ) rfl) h142).2.2.2.2.2)) rfl fun ac hA => ?_
 refine x_v hA (r_nilCheck rfl (hA.ev rfl)) rfl fun ac hA => ?_
 refine x_fab fa106_0 hA (fun ac hA => ?_) rfl rfl rfl rfl rfl
 refine x_stb 0 sz24 hA hS rfl (fun  ac w hS hA => ?_) rfl rfl rfl rfl rfl rfl rfl rfl
 refine wn (hK140 _ _ ?_)
 refine ws fun K148 hK148 => ?_
 refine x_m hA rfl fun ac hA => ?_
 refine x_m hA rfl fun ac hA => ?_
 refine wn (hK148 _ _ ?_)
 refine wp_ret ?_
 replace hS := SH.pure_ h143 hS
 replace hS := hS.pk 1
 replace hS := obj106_mk (x := (⟨l141⟩ : S106)) hS
 cases hF
 refine hQ _ rfl _ _ ?_
 refine lv Tryd.results61 hA rfl ?_
 exact ⟨rfl, hS⟩
end Go.Proofs.YteodeedejjcmgaaDoor.M
namespace Go.Proofs.YteodeedejjcmgaaDoor.M
open Go Go.RowKit Go.Proofs.YteodeedejjcmgaaDoor.E
set_option linter.unusedVariables false
set_option linter.unusedSimpArgs false
noncomputable def math_IsNaN (a0 : Nat) : Option (Bool) :=
  some (!feq a0 a0)
noncomputable def real_Canon (a0 : Nat) : Option (Nat) :=
  (math_IsNaN a0).bind fun y104 => (if y104 = true then (some ((9221120237041090560 : Int).toNat)) else (some a0))
noncomputable def real_Bits (a0 : Nat) : Option (Int) :=
  (real_Canon a0).bind fun y103 => (some (y103 : Int))
noncomputable def r01_Bits_j1 (a0 : Nat) (b112 : Bool) : Option (Int) :=
  if b112 = true then (some 9221120237041090560) else (some (a0 : Int))
noncomputable def r01_Bits (a0 : Nat) : Option (Int) :=
  ltt (ishr .u64 (a0 : Int) 52) fun x116 => (ltt (x116.tmod 2048) fun x118 => (if (x118 == 2047) = true then (ltt ((a0 : Int).tmod 4503599627370496) fun x121 => (r01_Bits_j1 a0 (x121 != 0))) else (r01_Bits_j1 a0 false)))
end Go.Proofs.YteodeedejjcmgaaDoor.M
namespace Go.Proofs.YteodeedejjcmgaaDoor.M
open Go Go.RowKit Go.Proofs.YteodeedejjcmgaaDoor.E
set_option linter.unusedVariables false
set_option maxRecDepth 100000
set_option maxHeartbeats 4000000
set_option linter.unusedSimpArgs false
theorem F_math_IsNaN {r : World} {L : List HP} {w : World} (a0 : Nat) {y : (Bool)} (hF : math_IsNaN a0 = some y) (hS : SH r (L) w) :
  Ret Tryd.prog 102 #[.float .f64 a0] w fun v w' => v = .bool y ∧ SH r (L) w' := by
 refine enter Tryd.func102 rfl Tryd.ntmps102 [(0, .float .f64 a0)] rfl (by simp) ?_
 intro ac hA Qf hQ hQn
 unfold math_IsNaN at hF
 refine ws fun K101 hK101 => ?_
 refine x_m hA rfl fun ac hA => ?_
 refine wn (hK101 _ _ ?_)
 refine ws fun K102 hK102 => ?_
 refine x_m hA rfl fun ac hA => ?_
 refine x_m hA rfl fun ac hA => ?_
 refine x_v hA (r_neF rfl (hA.ev rfl) (hA.ev rfl)) rfl fun ac hA => ?_
 refine x_m hA rfl fun ac hA => ?_
 refine wn (hK102 _ _ ?_)
 refine wp_ret ?_
 cases hF
 refine hQ _ _ ?_
 refine lv Tryd.results102 hA rfl ?_
 exact ⟨rfl, hS⟩
theorem F_real_Canon {r : World} {L : List HP} {w : World} (a0 : Nat) {y : (Nat)} (hF : real_Canon a0 = some y) (hS : SH r (L) w) :
  Ret Tryd.prog 90 #[.float .f64 a0] w fun v w' => v = .float .f64 y ∧ SH r (L) w' := by
 refine enter Tryd.func90 rfl Tryd.ntmps90 [(0, .float .f64 a0)] rfl (by simp) ?_
 intro ac hA Qf hQ hQn
 unfold real_Canon at hF
 refine ws fun K101 hK101 => ?_
 refine x_m hA rfl fun ac hA => ?_
 refine wn (hK101 _ _ ?_)
 refine wp_seq_k fun K102 hK102 => ?_
 refine ws fun K103 hK103 => ?_
 refine x_m hA rfl fun ac hA => ?_
 obtain ⟨y104, h105, hF⟩ := bnd hF
 refine x_call en102 hA (F_math_IsNaN (L := L) a0 h105 hS) (fun v ac w hR hA => ?_) rfl rfl rfl rfl rfl
 obtain ⟨rfl, hS⟩ := hR
 refine wn (hK103 _ _ ?_)
 refine c_if hA rfl (fun hb106 => ?_) fun hb106 => ?_
 ·replace hF := ift hb106 hF
  refine ws fun K107 hK107 => ?_
  refine x_v hA (r_ext (ex95 _) rfl (evs hA rfl)) rfl fun ac hA => ?_
  refine x_m hA rfl fun ac hA => ?_
  refine wn (hK107 _ _ ?_)
  refine wp_ret ?_
  cases hF
  refine hQ _ _ ?_
  refine lv Tryd.results90 hA rfl ?_
  exact ⟨rfl, hS⟩
 replace hF := iff' hb106 hF
 refine wp_skip ?_
 refine hK102 _ _ ?_
 refine ws fun K108 hK108 => ?_
 refine x_m hA rfl fun ac hA => ?_
 refine x_m hA rfl fun ac hA => ?_
 refine wn (hK108 _ _ ?_)
 refine wp_ret ?_
 cases hF
 refine hQ _ _ ?_
 refine lv Tryd.results90 hA rfl ?_
 exact ⟨rfl, hS⟩
theorem F_real_Bits {r : World} {L : List HP} {w : World} (a0 : Nat) {y : (Int)} (hF : real_Bits a0 = some y) (hS : SH r (L) w) :
  Ret Tryd.prog 73 #[.float .f64 a0] w fun v w' => v = .int .u64 y ∧ SH r (L) w' := by
 refine enter Tryd.func73 rfl Tryd.ntmps73 [(0, .float .f64 a0)] rfl (by simp) ?_
 intro ac hA Qf hQ hQn
 unfold real_Bits at hF
 refine ws fun K101 hK101 => ?_
 refine x_m hA rfl fun ac hA => ?_
 refine wn (hK101 _ _ ?_)
 refine ws fun K102 hK102 => ?_
 refine x_m hA rfl fun ac hA => ?_
 obtain ⟨y103, h104, hF⟩ := bnd hF
 refine x_call en90 hA (F_real_Canon (L := L) a0 h104 hS) (fun v ac w hR hA => ?_) rfl rfl rfl rfl rfl
 obtain ⟨rfl, hS⟩ := hR
 refine x_v hA (r_ext (ex89 _) rfl (evs hA rfl)) rfl fun ac hA => ?_
 refine x_m hA rfl fun ac hA => ?_
 refine wn (hK102 _ _ ?_)
 refine wp_ret ?_
 cases hF
 refine hQ _ _ ?_
 refine lv Tryd.results73 hA rfl ?_
 exact ⟨rfl, hS⟩
theorem F_r01_Bits {r : World} {L : List HP} {w : World} (a0 : Nat) {y : (Int)} (hF : r01_Bits a0 = some y) (hS : SH r (L) w) :
  Ret Tryd.prog 75 #[.float .f64 a0] w fun v w' => v = .int .u64 y ∧ SH r (L) w' := by
 refine enter Tryd.func75 rfl Tryd.ntmps75 [(0, .float .f64 a0)] rfl (by simp) ?_
 intro ac hA Qf hQ hQn
 unfold r01_Bits at hF
 refine ws fun K101 hK101 => ?_
 refine x_m hA rfl fun ac hA => ?_
 refine wn (hK101 _ _ ?_)
 refine ws fun K102 hK102 => ?_
 refine x_m hA rfl fun ac hA => ?_
 refine x_v hA (r_ext (ex89 _) rfl (evs hA rfl)) rfl fun ac hA => ?_
 refine x_m hA rfl fun ac hA => ?_
 refine wn (hK102 _ _ ?_)
 refine wp_seq_k fun K103 hK103 => ?_
 refine wp_seq_k fun K104 hK104 => ?_
 have hj1 : ∀ (b112 : Bool), r01_Bits_j1 a0 b112 = some y → ∀ (ac : Act) (w : World), FR 16 [] ac [(3, .int .u64 (a0 : Int)), (14, .bool b112)] → SH r (L) w → K104 ac w := by
  intro b112 hF ac w hA hS
  unfold r01_Bits_j1 at hF
  refine hK104 _ _ ?_
  refine c_if hA rfl (fun hb113 => ?_) fun hb113 => ?_
  ·replace hF := ift hb113 hF
   refine ws fun K114 hK114 => ?_
   refine x_m hA rfl fun ac hA => ?_
   refine wn (hK114 _ _ ?_)
   refine wp_ret ?_
   cases hF
   refine hQ _ _ ?_
   refine lv Tryd.results75 hA rfl ?_
   exact ⟨rfl, hS⟩
  replace hF := iff' hb113 hF
  refine wp_skip ?_
  refine hK103 _ _ ?_
  refine ws fun K115 hK115 => ?_
  refine x_m hA rfl fun ac hA => ?_
  refine x_m hA rfl fun ac hA => ?_
  refine wn (hK115 _ _ ?_)
  refine wp_ret ?_
  cases hF
  refine hQ _ _ ?_
  refine lv Tryd.results75 hA rfl ?_
  exact ⟨rfl, hS⟩
 refine wp_reg ?_
 refine x_m hA rfl fun ac hA => ?_
 obtain ⟨x116, h117, hF⟩ := ltt_ hF
 refine x_v (v := .int .u64 x116) hA (rv_i h117 (r_shr rfl (hA.ev rfl) (hA.ev rfl) (by decide))) rfl fun ac hA => ?_
 obtain ⟨x118, h119, hF⟩ := ltt_ hF
 refine x_v (v := .int .u64 x118) hA (rv_i h119 (r_rem rfl (hA.ev rfl) (hA.ev rfl) (by decide))) rfl fun ac hA => ?_
 refine x_v hA (r_eqI rfl (hA.ev rfl) (hA.ev rfl)) rfl fun ac hA => ?_
 refine x_m hA rfl fun ac hA => ?_
 refine bcase (b := x118 == 2047) (fun hb120 => ?_) fun hb120 => ?_
 ·replace hF := ift hb120 hF
  refine x_on hb120 hA ?_ rfl rfl rfl
  refine x_m hA rfl fun ac hA => ?_
  refine x_on hb120 hA ?_ rfl rfl rfl
  obtain ⟨x121, h122, hF⟩ := ltt_ hF
  refine x_v (v := .int .u64 x121) hA (rv_i h122 (r_rem rfl (hA.ev rfl) (hA.ev rfl) (by decide))) rfl fun ac hA => ?_
  refine x_on hb120 hA ?_ rfl rfl rfl
  refine x_v hA (r_neI rfl (hA.ev rfl) (hA.ev rfl)) rfl fun ac hA => ?_
  refine x_pickt hb120 hA (fun ac hA => ?_) rfl rfl rfl rfl rfl rfl
  refine wpList_nil ?_
  exact hj1 (x121 != 0) hF ac w (hA.sub _ rfl) hS
 replace hF := iff' hb120 hF
 refine x_off hb120 hA (fun ac hA => ?_) rfl rfl rfl rfl rfl
 refine x_off hb120 hA (fun ac hA => ?_) rfl rfl rfl rfl rfl
 refine x_off hb120 hA (fun ac hA => ?_) rfl rfl rfl rfl rfl
 refine x_pickf hb120 hA (fun ac hA => ?_) rfl rfl rfl rfl rfl rfl
 refine wpList_nil ?_
 exact hj1 false hF ac w (hA.sub _ rfl) hS
end Go.Proofs.YteodeedejjcmgaaDoor.M
namespace Go.Proofs.YteodeedejjcmgaaDoor.M
open Go Go.RowKit Go.Proofs.YteodeedejjcmgaaDoor.E
set_option linter.unusedVariables false
set_option linter.unusedSimpArgs false
noncomputable def column_Reals_b1 (l377 : (List Int)) : Option ((List Int)) :=
  (column_Ints l377).bind fun y382 => (some y382)
noncomputable def column_Reals_x1_0 (l450 : (List Int)) : Option ((List Int)) :=
  column_Reals_b1 l450
noncomputable def column_Reals_l1 (a0 : (List Nat)) (l420 : (List Int)) (x424 : Int) : Option (((List Int) × Int) ⊕ (((List Int)))) :=
  if (decide (x424 < (a0.length : Int))) = true then ((at_ a0 x424).bind fun x461 => ((real_Bits x461).bind fun y464 => (ltt (IntKind.i64.wrap y464) fun x466 => (chk (l420.length + [x466].length ≤ 140737488355328 / 8) (ltt (IntKind.i64.wrap (x424 + 1)) fun x473 => (some (.inl (l420 ++ [x466], x473)))))))) else (some (.inr (l420)))
noncomputable def column_Reals (a0 : (List Nat)) : Option ((List Int)) :=
  (loop (fun s => column_Reals_l1 a0 s.1 s.2) ([], 0)).bind fun t => column_Reals_x1_0 t
noncomputable def r03_Reals_b1 (l368 : (List Int)) : Option ((List Int)) :=
  (r03_Ints l368).bind fun y373 => (some y373)
noncomputable def r03_Reals_x1_0 (l439 : (List Int)) : Option ((List Int)) :=
  r03_Reals_b1 l439
noncomputable def r03_Reals_l1 (a0 : (List Nat)) (l410 : (List Int)) (x414 : Int) : Option (((List Int) × Int) ⊕ (((List Int)))) :=
  if (decide (x414 < (a0.length : Int))) = true then ((at_ a0 x414).bind fun x449 => ((r01_Bits x449).bind fun y452 => (ltt (IntKind.i64.wrap y452) fun x454 => (chk (l410.length + [x454].length ≤ 140737488355328 / 8) (ltt (IntKind.i64.wrap (x414 + 1)) fun x461 => (some (.inl (l410 ++ [x454], x461)))))))) else (some (.inr (l410)))
noncomputable def r03_Reals (a0 : (List Nat)) : Option ((List Int)) :=
  (loop (fun s => r03_Reals_l1 a0 s.1 s.2) ([], 0)).bind fun t => r03_Reals_x1_0 t
end Go.Proofs.YteodeedejjcmgaaDoor.M
namespace Go.Proofs.YteodeedejjcmgaaDoor.M
open Go Go.RowKit Go.Proofs.YteodeedejjcmgaaDoor.E
set_option linter.unusedVariables false
set_option maxRecDepth 100000
set_option maxHeartbeats 4000000
set_option linter.unusedSimpArgs false
theorem F_column_Reals {r : World} {L : List HP} {w : World} (a0 : (List Nat)) (A0 : Option Addr) (n0 : Nat) (c0 : Nat) {y : ((List Int))} (hF : column_Reals a0 = some y) (ha0 : RdL L kF A0 n0 c0 a0) (hS : SH r (L) w) :
  Ret Tryd.prog 47 #[.slice A0 n0 c0] w fun v w' => ∃ (B0 : Option Addr) (m0 : Nat) (d0 : Nat), v = .slice B0 m0 d0 ∧ SH r (own (kI .u8) 5 B0 m0 d0 y :: L) w' := by
 refine enter Tryd.func47 rfl Tryd.ntmps47 [(0, .slice A0 n0 c0)] rfl (by simp) ?_
 intro ac hA Qf hQ hQn
 unfold column_Reals at hF
 refine ws fun K101 hK101 => ?_
 refine x_m hA rfl fun ac hA => ?_
 refine wn (hK101 _ _ ?_)
 refine ws fun K102 hK102 => ?_
 refine x_m hA rfl fun ac hA => ?_
 refine wn (hK102 _ _ ?_)
 refine wp_seq_k fun K103 hK103 => ?_
 refine ws fun K287 hK287 => ?_
 refine x_m hA rfl fun ac hA => ?_
 refine x_len Tryd.underlying92 (hS.rdl 0 ha0 rfl).2.1 hA (fun ac hA => ?_) rfl rfl rfl rfl rfl
 refine x_m hA rfl fun ac hA => ?_
 refine wn (hK287 _ _ ?_)
 refine wp_block_k fun Kx288 hKx288 => ?_
 have hb1 : ∀ (l377 : (List Int)), column_Reals_b1 l377 = some y → ∀ (A378 : Option Addr) (n379 : Nat) (c380 : Nat) (ac : Act) (w : World), FR 21 [] ac [(3, .slice A378 n379 c380)] → SH r (own (kI .i64) 2 A378 n379 c380 l377 :: L) w → Kx288 ac w := by
  intro l377 hF A378 n379 c380 ac w hA hS
  unfold column_Reals_b1 at hF
  refine hKx288 _ _ ?_
  refine hK103 _ _ ?_
  refine ws fun K381 hK381 => ?_
  refine x_m hA rfl fun ac hA => ?_
  obtain ⟨y382, h383, hF⟩ := bnd hF
  refine x_call en45 hA (F_column_Ints (L := own (kI .i64) 2 A378 n379 c380 l377 :: L) l377 A378 n379 c380 h383 (RdL.own 0 rfl (hS.dropN 0)) hS) (fun v ac w hR hA => ?_) rfl rfl rfl rfl rfl
  obtain ⟨B384, m385, d386, rfl, hS⟩ := hR
  refine x_m hA rfl fun ac hA => ?_
  refine wn (hK381 _ _ ?_)
  refine wp_ret ?_
  replace hS := hS.drop 1
  cases hF
  refine hQ _ _ ?_
  refine lv Tryd.results47 hA rfl ?_
  exact ⟨B384, m385, d386, rfl, hS⟩
 obtain ⟨t453, hl453, hF⟩ := bnd hF
 have hx453_0 : ∀ (l450 : (List Int)), (l450) = t453 → ∀ (A451 : Option Addr) (n452 : Nat) (c453 : Nat) (ac : Act) (w : World), FR 21 [] ac [(3, .slice A451 n452 c453)] → SH r (own (kI .i64) 2 A451 n452 c453 l450 :: L) w → Kx288 ac w := by
  intro l450 ht A451 n452 c453 ac w hA hS
  subst ht
  replace hF : column_Reals_x1_0 l450 = some y := hF
  unfold column_Reals_x1_0 at hF
  exact hb1 l450 hF A451 n452 c453 ac w (hA.sub _ rfl) hS
 replace hS := SH.nil_own (d := (kI .i64)) (e := 2) hS
 refine wp_loop_fn hl453 (fun s ac w => ∃ (A421 : Option Addr) (n422 : Nat) (c423 : Nat), FR 21 [] ac [(3, .slice A421 n422 c423), (6, .slice A0 n0 c0), (7, .int .i64 (a0.length : Int)), (8, .int .i64 s.2)] ∧ SH r (own (kI .i64) 2 A421 n422 c423 s.1 :: L) w) ⟨none, 0, 0, hA.sub _ rfl, hS⟩ ?_
 intro N453 s453 o453 hF N453_ T453_ ac w hLab
 obtain ⟨l420, x424⟩ := s453
 replace hF : column_Reals_l1 a0 l420 x424 = some o453 := hF
 unfold column_Reals_l1 at hF
 try dsimp only at hLab
 obtain ⟨A421, n422, c423, hA, hS⟩ := hLab
 refine ws fun K455 hK455 => ?_
 refine x_v hA (r_ltI rfl (hA.ev rfl) (hA.ev rfl)) rfl fun ac hA => ?_
 refine wn (hK455 _ _ ?_)
 refine wp_seq_k fun K456 hK456 => ?_
 refine c_if hA rfl (fun hb457 => ?_) fun hb457 => ?_
 ·replace hF := ift hb457 hF
  refine wp_skip ?_
  refine hK456 _ _ ?_
  refine wp_seq_k fun K458 hK458 => ?_
  refine wp_block_k fun Kx459 hKx459 => ?_
  refine ws fun K460 hK460 => ?_
  obtain ⟨x461, h462, hF⟩ := bnd hF
  refine x_ia Tryd.underlying92 sz42 (hS.rdl 1 ha0 rfl) h462 hA (fun ac hA => ?_) rfl rfl rfl rfl rfl rfl
  obtain ⟨cs, hV, hc463⟩ := el (hS.rdl 1 ha0 rfl) h462
  obtain rfl := hV
  refine x_ld Tryd.underlying42 (hc463 0 _ rfl) hA (fun ac hA => ?_) rfl rfl rfl rfl rfl rfl
  refine x_m hA rfl fun ac hA => ?_
  refine wn (hK460 _ _ ?_)
  refine wp_reg ?_
  refine x_m hA rfl fun ac hA => ?_
  refine x_m hA rfl fun ac hA => ?_
  obtain ⟨y464, h465, hF⟩ := bnd hF
  refine x_call en73 hA (F_real_Bits (L := own (kI .i64) 2 A421 n422 c423 l420 :: L) x461 h465 hS) (fun v ac w hR hA => ?_) rfl rfl rfl rfl rfl
  obtain ⟨rfl, hS⟩ := hR
  obtain ⟨x466, h467, hF⟩ := ltt_ hF
  refine x_v (v := .int .i64 x466) hA (rv_i h467 (r_convI Tryd.underlying31 Tryd.underlying2 rfl (hA.ev rfl))) rfl fun ac hA => ?_
  refine x_bsl (d := (kI .i64)) (e := 2) (ps := #[(0, .int .i64 x466)]) (cells := [.int .i64 x466]) (xs := [x466]) (fun w => by kernel_rfl) rfl ⟨[.int .i64 x466], _, rfl, rfl, rfl⟩ hA hS (fun g468 ac w hS hA => ?_) rfl rfl rfl rfl rfl rfl
  obtain ⟨h469, hF⟩ := chk_some hF
  have hr := hS.rd 0 rfl
  refine x_app 1 inf2 Tryd.underlying90 hA hS hr.1 hr.2.1 h469 rfl (fun A470 n471 c472 ac w hS hA => ?_) rfl rfl rfl rfl rfl rfl rfl rfl rfl
  refine x_m hA rfl fun ac hA => ?_
  refine wpList_nil ?_
  refine hKx459 _ _ ?_
  refine hK458 _ _ ?_
  refine wp_reg ?_
  obtain ⟨x473, h474, hF⟩ := ltt_ hF
  refine x_v (v := .int .i64 x473) hA (rv_i h474 (r_add rfl (hA.ev rfl) (hA.ev rfl))) rfl fun ac hA => ?_
  refine x_m hA rfl fun ac hA => ?_
  refine wpList_nil ?_
  replace hS := hS.drop 1
  cases hF
  exact ⟨_, N453_ _ rfl, A470, n471, c472, hA.sub _ rfl, hS⟩
 replace hF := iff' hb457 hF
 refine wp_exit ?_
 cases hF
 exact hx453_0 l420 (T453_ _ rfl) A421 n422 c423 ac w (hA.sub _ rfl) hS
theorem F_r03_Reals {r : World} {L : List HP} {w : World} (a0 : (List Nat)) (A0 : Option Addr) (n0 : Nat) (c0 : Nat) {y : ((List Int))} (hF : r03_Reals a0 = some y) (ha0 : RdL L kF A0 n0 c0 a0) (hS : SH r (L) w) :
  Ret Tryd.prog 53 #[.slice A0 n0 c0] w fun v w' => ∃ (B0 : Option Addr) (m0 : Nat) (d0 : Nat), v = .slice B0 m0 d0 ∧ SH r (own (kI .u8) 5 B0 m0 d0 y :: L) w' := by
 refine enter Tryd.func53 rfl Tryd.ntmps53 [(0, .slice A0 n0 c0)] rfl (by simp) ?_
 intro ac hA Qf hQ hQn
 unfold r03_Reals at hF
 refine ws fun K101 hK101 => ?_
 refine x_m hA rfl fun ac hA => ?_
 refine wn (hK101 _ _ ?_)
 refine ws fun K102 hK102 => ?_
 refine x_m hA rfl fun ac hA => ?_
 refine wn (hK102 _ _ ?_)
 refine wp_seq_k fun K103 hK103 => ?_
 refine ws fun K281 hK281 => ?_
 refine x_m hA rfl fun ac hA => ?_
 refine wn (hK281 _ _ ?_)
 refine wp_block_k fun Kx282 hKx282 => ?_
 have hb1 : ∀ (l368 : (List Int)), r03_Reals_b1 l368 = some y → ∀ (A369 : Option Addr) (n370 : Nat) (c371 : Nat) (ac : Act) (w : World), FR 22 [] ac [(3, .slice A369 n370 c371)] → SH r (own (kI .i64) 2 A369 n370 c371 l368 :: L) w → Kx282 ac w := by
  intro l368 hF A369 n370 c371 ac w hA hS
  unfold r03_Reals_b1 at hF
  refine hKx282 _ _ ?_
  refine hK103 _ _ ?_
  refine ws fun K372 hK372 => ?_
  refine x_m hA rfl fun ac hA => ?_
  obtain ⟨y373, h374, hF⟩ := bnd hF
  refine x_call en51 hA (F_r03_Ints (L := own (kI .i64) 2 A369 n370 c371 l368 :: L) l368 A369 n370 c371 h374 (RdL.own 0 rfl (hS.dropN 0)) hS) (fun v ac w hR hA => ?_) rfl rfl rfl rfl rfl
  obtain ⟨B375, m376, d377, rfl, hS⟩ := hR
  refine x_m hA rfl fun ac hA => ?_
  refine wn (hK372 _ _ ?_)
  refine wp_ret ?_
  replace hS := hS.drop 1
  cases hF
  refine hQ _ _ ?_
  refine lv Tryd.results53 hA rfl ?_
  exact ⟨B375, m376, d377, rfl, hS⟩
 obtain ⟨t442, hl442, hF⟩ := bnd hF
 have hx442_0 : ∀ (l439 : (List Int)), (l439) = t442 → ∀ (A440 : Option Addr) (n441 : Nat) (c442 : Nat) (ac : Act) (w : World), FR 22 [] ac [(3, .slice A440 n441 c442)] → SH r (own (kI .i64) 2 A440 n441 c442 l439 :: L) w → Kx282 ac w := by
  intro l439 ht A440 n441 c442 ac w hA hS
  subst ht
  replace hF : r03_Reals_x1_0 l439 = some y := hF
  unfold r03_Reals_x1_0 at hF
  exact hb1 l439 hF A440 n441 c442 ac w (hA.sub _ rfl) hS
 replace hS := SH.nil_own (d := (kI .i64)) (e := 2) hS
 refine wp_loop_fn hl442 (fun s ac w => ∃ (A411 : Option Addr) (n412 : Nat) (c413 : Nat), FR 22 [] ac [(0, .slice A0 n0 c0), (3, .slice A411 n412 c413), (4, .int .i64 s.2)] ∧ SH r (own (kI .i64) 2 A411 n412 c413 s.1 :: L) w) ⟨none, 0, 0, hA.sub _ rfl, hS⟩ ?_
 intro N442 s442 o442 hF N442_ T442_ ac w hLab
 obtain ⟨l410, x414⟩ := s442
 replace hF : r03_Reals_l1 a0 l410 x414 = some o442 := hF
 unfold r03_Reals_l1 at hF
 try dsimp only at hLab
 obtain ⟨A411, n412, c413, hA, hS⟩ := hLab
 refine wp_seq_k fun K444 hK444 => ?_
 refine ws fun K445 hK445 => ?_
 refine x_m hA rfl fun ac hA => ?_
 refine x_m hA rfl fun ac hA => ?_
 refine x_len Tryd.underlying92 (hS.rdl 1 ha0 rfl).2.1 hA (fun ac hA => ?_) rfl rfl rfl rfl rfl
 refine x_v hA (r_ltI rfl (hA.ev rfl) (hA.ev rfl)) rfl fun ac hA => ?_
 refine wn (hK445 _ _ ?_)
 refine c_if hA rfl (fun hb446 => ?_) fun hb446 => ?_
 ·replace hF := ift hb446 hF
  refine wp_skip ?_
  refine hK444 _ _ ?_
  refine wp_seq_k fun K447 hK447 => ?_
  refine wp_block_k fun Kx448 hKx448 => ?_
  refine wp_reg ?_
  refine x_m hA rfl fun ac hA => ?_
  refine x_m hA rfl fun ac hA => ?_
  refine x_m hA rfl fun ac hA => ?_
  obtain ⟨x449, h450, hF⟩ := bnd hF
  refine x_ia Tryd.underlying92 sz42 (hS.rdl 1 ha0 rfl) h450 hA (fun ac hA => ?_) rfl rfl rfl rfl rfl rfl
  obtain ⟨cs, hV, hc451⟩ := el (hS.rdl 1 ha0 rfl) h450
  obtain rfl := hV
  refine x_ld Tryd.underlying42 (hc451 0 _ rfl) hA (fun ac hA => ?_) rfl rfl rfl rfl rfl rfl
  obtain ⟨y452, h453, hF⟩ := bnd hF
  refine x_call en75 hA (F_r01_Bits (L := own (kI .i64) 2 A411 n412 c413 l410 :: L) x449 h453 hS) (fun v ac w hR hA => ?_) rfl rfl rfl rfl rfl
  obtain ⟨rfl, hS⟩ := hR
  obtain ⟨x454, h455, hF⟩ := ltt_ hF
  refine x_v (v := .int .i64 x454) hA (rv_i h455 (r_convI Tryd.underlying31 Tryd.underlying2 rfl (hA.ev rfl))) rfl fun ac hA => ?_
  refine x_bsl (d := (kI .i64)) (e := 2) (ps := #[(0, .int .i64 x454)]) (cells := [.int .i64 x454]) (xs := [x454]) (fun w => by kernel_rfl) rfl ⟨[.int .i64 x454], _, rfl, rfl, rfl⟩ hA hS (fun g456 ac w hS hA => ?_) rfl rfl rfl rfl rfl rfl
  obtain ⟨h457, hF⟩ := chk_some hF
  have hr := hS.rd 0 rfl
  refine x_app 1 inf2 Tryd.underlying90 hA hS hr.1 hr.2.1 h457 rfl (fun A458 n459 c460 ac w hS hA => ?_) rfl rfl rfl rfl rfl rfl rfl rfl rfl
  refine x_m hA rfl fun ac hA => ?_
  refine wpList_nil ?_
  refine hKx448 _ _ ?_
  refine hK447 _ _ ?_
  refine wp_reg ?_
  refine x_m hA rfl fun ac hA => ?_
  obtain ⟨x461, h462, hF⟩ := ltt_ hF
  refine x_v (v := .int .i64 x461) hA (rv_i h462 (r_add rfl (hA.ev rfl) (hA.ev rfl))) rfl fun ac hA => ?_
  refine x_m hA rfl fun ac hA => ?_
  refine wpList_nil ?_
  replace hS := hS.drop 1
  cases hF
  exact ⟨_, N442_ _ rfl, A458, n459, c460, hA.sub _ rfl, hS⟩
 replace hF := iff' hb446 hF
 refine wp_exit ?_
 cases hF
 exact hx442_0 l410 (T442_ _ rfl) A411 n412 c413 ac w (hA.sub _ rfl) hS
end Go.Proofs.YteodeedejjcmgaaDoor.M
namespace Go.Proofs
open Go.RowKit Go.Maps Go.Sort Go.Shelf
def Tryd.sortL_ren : Go.Shelf.Ren := ⟨fun | 190 => 85 | 125 => 100 | 258 => 99 | 128 => 111 | 129 => 97 | 302 => 103 | 303 => 104 | 304 => 105 | 305 => 106 | 306 => 107 | 307 => 108 | 308 => 87 | 309 => 109 | 310 => 110 | 333 => 112 | 329 => 113 | 330 => 114 | 334 => 115 | 335 => 116 | 336 => 101 | 344 => 117 | n => n, fun | 31 => 91 | 9 => 9 | 3 => 3 | 46 => 73 | 0 => 0 | 51 => 48 | 53 => 31 | 4 => 4 | 183 => 153 | 182 => 152 | 131 => 127 | 5 => 5 | 218 => 159 | 222 => 163 | 228 => 165 | 229 => 166 | n => n, fun | n => n⟩
theorem Tryd.sortL : Go.Proofs.Lays.n190 Tryd.prog Tryd.sortL_ren := {
  mixed := by kernel_rfl
  f125 := Tryd.func100.trans (congrArg some (by kernel_rfl))
  f128 := Tryd.func111.trans (congrArg some (by kernel_rfl))
  f129 := Tryd.func97.trans (congrArg some (by kernel_rfl))
  f190 := Tryd.func85.trans (congrArg some (by kernel_rfl))
  f258 := Tryd.func99.trans (congrArg some (by kernel_rfl))
  f302 := Tryd.func103.trans (congrArg some (by kernel_rfl))
  f303 := Tryd.func104.trans (congrArg some (by kernel_rfl))
  f304 := Tryd.func105.trans (congrArg some (by kernel_rfl))
  f305 := Tryd.func106.trans (congrArg some (by kernel_rfl))
  f306 := Tryd.func107.trans (congrArg some (by kernel_rfl))
  f307 := Tryd.func108.trans (congrArg some (by kernel_rfl))
  f308 := Tryd.func87.trans (congrArg some (by kernel_rfl))
  f309 := Tryd.func109.trans (congrArg some (by kernel_rfl))
  f310 := Tryd.func110.trans (congrArg some (by kernel_rfl))
  f329 := Tryd.func113.trans (congrArg some (by kernel_rfl))
  f330 := Tryd.func114.trans (congrArg some (by kernel_rfl))
  f333 := Tryd.func112.trans (congrArg some (by kernel_rfl))
  f334 := Tryd.func115.trans (congrArg some (by kernel_rfl))
  f335 := Tryd.func116.trans (congrArg some (by kernel_rfl))
  f336 := Tryd.func101.trans (congrArg some (by kernel_rfl))
  f344 := Tryd.func117.trans (congrArg some (by kernel_rfl))
  t0 := Tryd.underlying0
  a0 := Tryd.isAgg0
  z0 := Tryd.sizeOf0
  v0 := Tryd.zeroValue0
  t3 := Tryd.underlying3
  a3 := Tryd.isAgg3
  z3 := Tryd.sizeOf3
  v3 := Tryd.zeroValue3
  t4 := Tryd.underlying4
  a4 := Tryd.isAgg4
  z4 := Tryd.sizeOf4
  v4 := Tryd.zeroValue4
  t5 := Tryd.underlying5
  a5 := Tryd.isAgg5
  z5 := Tryd.sizeOf5
  v5 := Tryd.zeroValue5
  t9 := Tryd.underlying9
  a9 := Tryd.isAgg9
  z9 := Tryd.sizeOf9
  v9 := Tryd.zeroValue9
  t31 := Tryd.underlying91
  a31 := Tryd.isAgg91
  z31 := Tryd.sizeOf91
  v31 := Tryd.zeroValue91
  t46 := Tryd.underlying73
  a46 := Tryd.isAgg73
  z46 := Tryd.sizeOf73
  v46 := Tryd.zeroValue73
  t51 := Tryd.underlying48
  a51 := Tryd.isAgg48
  z51 := Tryd.sizeOf48
  v51 := Tryd.zeroValue48
  t53 := Tryd.underlying31
  a53 := Tryd.isAgg31
  z53 := Tryd.sizeOf31
  v53 := Tryd.zeroValue31
  t131 := Tryd.underlying127
  a131 := Tryd.isAgg127
  z131 := Tryd.sizeOf127
  v131 := Tryd.zeroValue127
  t182 := Tryd.underlying152
  a182 := Tryd.isAgg152
  z182 := Tryd.sizeOf152
  v182 := Tryd.zeroValue152
  t183 := Tryd.underlying153
  a183 := Tryd.isAgg153
  z183 := Tryd.sizeOf153
  v183 := Tryd.zeroValue153
  t218 := Tryd.underlying159
  a218 := Tryd.isAgg159
  z218 := Tryd.sizeOf159
  v218 := Tryd.zeroValue159
  t222 := Tryd.underlying163
  a222 := Tryd.isAgg163
  z222 := Tryd.sizeOf163
  v222 := Tryd.zeroValue163
  t228 := Tryd.underlying165
  a228 := Tryd.isAgg165
  z228 := Tryd.sizeOf165
  v228 := Tryd.zeroValue165
  t229 := Tryd.underlying166
  a229 := Tryd.isAgg166
  z229 := Tryd.sizeOf166
  v229 := Tryd.zeroValue166 }
def Tryd.compactL_ren : Go.Shelf.Ren := ⟨fun | 194 => 69 | n => n, fun | 31 => 91 | 9 => 9 | 3 => 3 | 4 => 4 | 0 => 0 | n => n, fun | n => n⟩
theorem Tryd.compactL : Go.Proofs.Lays.n194 Tryd.prog Tryd.compactL_ren := {
  mixed := by kernel_rfl
  f194 := Tryd.func69.trans (congrArg some (by kernel_rfl))
  t0 := Tryd.underlying0
  a0 := Tryd.isAgg0
  z0 := Tryd.sizeOf0
  v0 := Tryd.zeroValue0
  t3 := Tryd.underlying3
  a3 := Tryd.isAgg3
  z3 := Tryd.sizeOf3
  v3 := Tryd.zeroValue3
  t4 := Tryd.underlying4
  a4 := Tryd.isAgg4
  z4 := Tryd.sizeOf4
  v4 := Tryd.zeroValue4
  t9 := Tryd.underlying9
  a9 := Tryd.isAgg9
  z9 := Tryd.sizeOf9
  v9 := Tryd.zeroValue9
  t31 := Tryd.underlying91
  a31 := Tryd.isAgg91
  z31 := Tryd.sizeOf91
  v31 := Tryd.zeroValue91 }
def Tryd.sortedL_ren : Go.Shelf.Ren := ⟨fun | 6 => 70 | 8 => 84 | 9 => 85 | 11 => 98 | 13 => 100 | 12 => 99 | 23 => 111 | 24 => 97 | 14 => 103 | 15 => 104 | 16 => 105 | 17 => 106 | 18 => 107 | 19 => 108 | 20 => 87 | 21 => 109 | 22 => 110 | 25 => 112 | 26 => 113 | 27 => 114 | 28 => 115 | 29 => 116 | 30 => 101 | 31 => 117 | n => n, fun | 26 => 9 | 28 => 125 | 24 => 91 | 0 => 0 | 3 => 3 | 37 => 73 | 48 => 48 | 50 => 31 | 4 => 4 | 40 => 153 | 39 => 152 | 45 => 127 | 5 => 5 | 9 => 9 | 51 => 159 | 55 => 163 | 57 => 165 | 58 => 166 | 33 => 139 | n => n, fun | n => n⟩
theorem Tryd.sortedL : Go.Proofs.SlLaysZ.n6 Tryd.prog Tryd.sortedL_ren := {
  mixed := by kernel_rfl
  f6 := ⟨ "slices.Sorted[string]", by decide, Tryd.func70.trans (congrArg some (by kernel_rfl))⟩
  f8 := ⟨ "slices.Collect[string]", by decide, Tryd.func84.trans (congrArg some (by kernel_rfl))⟩
  f11 := ⟨ "slices.AppendSeq[[]string,string]", by decide, Tryd.func98.trans (congrArg some (by kernel_rfl))⟩
  t0 := Tryd.underlying0
  a0 := Tryd.isAgg0
  z0 := Tryd.sizeOf0
  v0 := Tryd.zeroValue0
  t24 := Tryd.underlying91
  a24 := Tryd.isAgg91
  z24 := Tryd.sizeOf91
  v24 := Tryd.zeroValue91
  t26 := Tryd.underlying9
  a26 := Tryd.isAgg9
  z26 := Tryd.sizeOf9
  v26 := Tryd.zeroValue9
  t28 := Tryd.underlying125
  a28 := Tryd.isAgg125
  z28 := Tryd.sizeOf125
  v28 := Tryd.zeroValue125
  i26 := by kernel_rfl }
set_option maxRecDepth 100000 in
set_option maxHeartbeats 2000000 in
theorem values_gives (n : Nat) (hn : 1 ≤ n) (l Bx B : Nat) (W0 : World) (A : Option Addr) (c : Nat) (xs : List (List UInt8)) (hl : xs.length ≤ 4611686018427387904) (J : List (List UInt8) → World → Prop)
    (hJB : ∀ ss W1, J ss W1 → Below B W0 W1) (hBx : Bx < B) (hbox : W0.cell? ⟨Bx, 0, none⟩ = some (.slice A xs.length c))
    (hrow : 0 < xs.length → ∃ b off, A = some ⟨b, off, none⟩ ∧ b < B ∧ ∀ j x, xs[j]? = some x → W0.cell? ⟨b, off + j, none⟩ = some (encStr x))
    (hY : ∀ pre x W1, J pre W1 → pre.length < xs.length → YieldAt Fence.wide (n - 1) Tryd.prog l #[encStr x] W1 fun e W' => e = .returned (.bool true) ∧ J (pre ++ [x]) W' ∧ KeepsWalks W1 W')
    (W : World) (h0 : J [] W) :
    CallsIn Fence.wide n Tryd.prog 86 #[.func (.yield l) #[] #[], .pointer (some ⟨Bx, 0, none⟩)] W fun e W' => (∃ v, e = .returned v) ∧ J xs W' := by
  have hb1 := (hJB _ _ h0)
  have hx0 : W.cell? ⟨Bx, 0, none⟩ = some (.slice A xs.length c) := (hb1.cell (p := ⟨Bx, 0, none⟩) hBx).trans hbox
  refine callsIn_of_wp Tryd.func86 rfl trivial ?_ rfl
  simp only [Tryd.ntmps86, List.size_toArray, List.length_cons, List.length_nil, Nat.reduceAdd, Nat.reduceSub, Array.replicate_succ, Array.replicate_zero, List.push_toArray, List.append_toArray, List.nil_append, List.cons_append]
  gi_wp2
  gi_loopw [7] (fun s7 wr => ∃ k : Nat, s7 = .int .i64 k ∧ k ≤ xs.length ∧ J (xs.take k) wr) (fun s7 _ => match s7 with | .int .i64 k => (xs.length : Int).toNat - k.toNat | _ => 0)
  case atStart => exact ⟨0, rfl, Nat.zero_le _, by simpa using h0⟩
  case round =>
    obtain ⟨k, rfl, hk, hJk⟩ := hrel
    by_cases hlt : k < xs.length
    · obtain ⟨b, off, rfl, hb, hcell⟩ := hrow (by omega)
      have hx := List.getElem?_eq_getElem hlt
      have hc := ((hJB _ _ hJk).cell (p := ⟨b, off + k, none⟩) hb).trans (hcell k _ hx)
      obtain ⟨x, hxx⟩ : ∃ x, x = xs[k] := ⟨_, rfl⟩
      rw [← hxx] at hc hx
      have hkl : (xs.take k).length = k := by simp; omega
      obtain ⟨fn, tmps, assign, body, hy, hR⟩ := hY (xs.take k) x wr hJk (by omega)
      clear hrow hcell hxx
      gi_wp2
      refine hR.mono ?_
      rintro e W3 ⟨rfl, hJ3, hk3⟩
      gi_wp2
      go_roundw
      case rel => exact ⟨k + 1, by simp, by omega, by rw [List.take_add_one, hx]; exact hJ3⟩
      case measure => simp; omega
    · have : k = xs.length := by omega
      subst this
      gi_wp2
      go_end0
      exact ⟨⟨_, rfl⟩, by simpa using hJk⟩
set_option maxRecDepth 100000 in
set_option maxHeartbeats 2000000 in
theorem appendSeq_values (Bx : Nat) (w : World) (A : Option Addr) (c : Nat) (xs : List (List UInt8)) (hl : xs.length * 16 ≤ 140737488355328) (hBx : Bx < w.heap.size) (hbox : w.cell? ⟨Bx, 0, none⟩ = some (.slice A xs.length c))
    (hrow : 0 < xs.length → ∃ b off, A = some ⟨b, off, none⟩ ∧ b < w.heap.size ∧ ∀ j x, xs[j]? = some x → w.cell? ⟨b, off + j, none⟩ = some (encStr x)) :
    Calls Tryd.prog 98 #[.slice none 0 0, .func (.func 86) #[] #[.pointer (some ⟨Bx, 0, none⟩)]] w fun e w' => ∃ v, e = .returned v ∧ w'.ownsRow w.heap.size 9 1 v xs.length (xs.map encStr) ∧ (v = .slice none 0 0 ↔ xs = []) ∧ Below w.heap.size w w' := by
  refine (callsIn_wide (n := 5)).1 ?_
  obtain ⟨sv, hsv⟩ : ∃ sv : Value, sv = .func (.func 86) #[] #[.pointer (some ⟨Bx, 0, none⟩)] := ⟨_, rfl⟩
  have hsv' := hsv
  refine callsIn_of_wp_marks Tryd.func98 rfl trivial ?_ rfl
  simp only [Tryd.ntmps98, List.size_toArray, List.length_cons, List.length_nil, Nat.reduceAdd, Nat.reduceSub, Array.replicate_succ, Array.replicate_zero, List.push_toArray, List.append_toArray, List.nil_append, List.cons_append]
  gi_wp2
  refine wpIn_rangeFunc ?_
  intro fn hfn
  rw [show Fence.wide.round = none from rfl]
  let ρ := Tryd.sortedL_ren
  obtain ⟨W0, hW0⟩ : ∃ W0, w.alloc (.cells #[.slice none 0 0] 91) = W0 := ⟨_, rfl⟩
  have hs0 : W0.heap.size = w.heap.size + 1 := by rw [← hW0]; simp
  have hv0 : W0.heap[w.heap.size]? = some (.cells #[.slice none 0 0] 91 (0, 0)) := by rw [← hW0]; exact World.alloc_heap_new w _
  have hb0 : Below w.heap.size w W0 := by rw [← hW0]; exact (Below.refl _ w).alloc (Nat.le_refl _) _
  rw [hW0]
  obtain ⟨W1, hW1⟩ : ∃ W1, (W0.alloc (.deferred (some []))).alloc (.loop (AnyZ.apRec ρ fn sv w.heap.size W0.heap.size .ready none)) = W1 := ⟨_, rfl⟩
  have hold : ∀ k, k < W0.heap.size → W1.heap[k]? = W0.heap[k]? := fun k hk => by
    rw [← hW1]; exact (Below.heap_alloc _ _ k (by simp; omega)).trans (Below.heap_alloc _ _ k hk)
  have hb1 : Below w.heap.size w W1 := by rw [← hW1]; exact (hb0.alloc hb0.size _).alloc (by have := hb0.size; simp; omega) _
  have hM : AnyZ.ApAt ρ w fn sv w.heap.size (W0.heap.size + 1) W0.heap.size [] W1 :=
    ⟨⟨_, (hold w.heap.size (by omega)).trans hv0, ⟨rfl, .inl ⟨rfl, rfl⟩⟩, by simp⟩,
     by rw [← hW1]; have := World.alloc_heap_new (W0.alloc (.deferred (some []))) (.loop (AnyZ.apRec ρ fn sv w.heap.size W0.heap.size .ready none)); rwa [World.size_alloc] at this,
     by rw [← hW1]; exact (Below.heap_alloc _ _ _ (by simp)).trans (World.alloc_heap_new W0 _), hb1⟩
  refine ⟨W0.heap.size + 1, [{ target := .collected W0.heap.size, args := #[] }], W1, { target := .fn (.func 86) #[.pointer (some ⟨Bx, 0, none⟩)], args := #[.func (.yield (W0.heap.size + 1)) #[] #[]] }, W1, 86,
    #[.func (.yield (W0.heap.size + 1)) #[] #[]] ++ #[.pointer (some ⟨Bx, 0, none⟩)], W1, ?_, ?_, ?_, ?_, fun _ => by omega, ?_⟩
  · rw [← hW1, hsv]; exact run_enterLoop_outer _ _ _ _ _
  · simp [resolve, go_sem]
  · intro f' hf'; trivial
  · simp [invoke, go_sem]
  · have hcur := AnyZ.apYield (ρ := ρ) (P := Tryd.prog) { Tryd.sortedL with } Fence.wide 3 w fn hfn sv w.heap.size (W0.heap.size + 1) W0.heap.size (by omega) (by omega) (by omega) (Nat.le_refl _) (by omega) xs.length (by unfold maxLen; omega) hl
    refine (values_gives 4 (by omega) (W0.heap.size + 1) Bx w.heap.size w A c xs (by omega) (AnyZ.ApAt ρ w fn sv w.heap.size (W0.heap.size + 1) W0.heap.size) (fun ss W1 h => h.below) hBx hbox hrow
      (fun pre x W hJ hlt => hcur pre x W hJ hlt) W1 hM).mono ?_
    rintro e W2 ⟨⟨v0, rfl⟩, h2⟩
    obtain ⟨v, hv, hr, hnil⟩ := h2.box
    have hend := run_endLoop (P := Tryd.prog) h2.L (by simp [AnyZ.apRec])
    obtain ⟨W3, hW3⟩ : ∃ W3, W2.putObj (W0.heap.size + 1) (.loop { AnyZ.apRec ρ fn sv w.heap.size W0.heap.size .ready none with state := .exhausted }) = W3 := ⟨_, rfl⟩
    rw [hW3] at hend
    have hg3 : W2.grownBy W3 (some (W0.heap.size + 1)) := by rw [← hW3]; exact grownBy_putObj_a _ _ _
    have hv3 : W3.heap[w.heap.size]? = some (.cells #[v] 91 (0, 0)) := by rw [← hW3]; exact (World.putObj_heap_other (by omega)).trans hv
    have hK3 : W3.heap[W0.heap.size]? = some (.deferred (some [])) := by rw [← hW3]; exact (World.putObj_heap_other (by omega)).trans h2.K
    have hr3 := hr.kept hg3 (ownsRow_ne_a hr h2.L (fun cur e => by cases e))
    have hb3 : Below w.heap.size w W3 := h2.below.grown hg3 h2.below.size (fun k e => by cases e; omega)
    obtain ⟨hc3, hf3⟩ := cell_of_box_a hv3
    clear hW3
    refine ⟨none, W3, hend, ?_⟩
    gi_wp2
    rw [← hs0]
    refine ⟨by simp, .inl ⟨_, _, rfl, run_takeDeferred hK3, ?_⟩⟩
    exact ⟨_, results_tmp rfl _ _ _, v, rfl, hr3.kept (grownBy_putObj_a _ _ _) (ownsRow_ne_a hr3 hK3 (fun cur e => by cases e)), hnil, hb3.grown (grownBy_putObj_a _ _ _) hb3.size (fun k e => by cases e; omega)⟩
set_option maxRecDepth 100000 in
set_option maxHeartbeats 2000000 in
theorem collect_values (Bx : Nat) (w : World) (A : Option Addr) (c : Nat) (xs : List (List UInt8)) (hl : xs.length * 16 ≤ 140737488355328) (hBx : Bx < w.heap.size) (hbox : w.cell? ⟨Bx, 0, none⟩ = some (.slice A xs.length c))
    (hrow : 0 < xs.length → ∃ b off, A = some ⟨b, off, none⟩ ∧ b < w.heap.size ∧ ∀ j x, xs[j]? = some x → w.cell? ⟨b, off + j, none⟩ = some (encStr x)) :
    Calls Tryd.prog 84 #[.func (.func 86) #[] #[.pointer (some ⟨Bx, 0, none⟩)]] w fun e w' => ∃ v, e = .returned v ∧ w'.ownsRow w.heap.size 9 1 v xs.length (xs.map encStr) ∧ (v = .slice none 0 0 ↔ xs = []) ∧ Below w.heap.size w w' := by
  refine (callsIn_wide (n := 6)).1 ?_
  have cS := (callsIn_wide (n := 5)).2 (appendSeq_values Bx w A c xs hl hBx hbox hrow)
  refine callsIn_of_wp Tryd.func84 rfl trivial ?_ rfl
  simp only [Tryd.ntmps84, List.size_toArray, List.length_cons, List.length_nil, Nat.reduceAdd, Nat.reduceSub, Array.replicate_succ, Array.replicate_zero, List.push_toArray, List.append_toArray, List.nil_append, List.cons_append]
  have hfS : Fence.wide.fn 98 := trivial
  gi_wp2_with (gi_at_call 98; refine cS.mono ?_; rintro e w' ⟨v, rfl, hr, hnil, hb⟩)
  go_ret
  exact ⟨v, rfl, hr, hnil, hb⟩
set_option maxRecDepth 100000 in
set_option maxHeartbeats 2000000 in
theorem sorted_values (Bx : Nat) (w : World) (A : Option Addr) (c : Nat) (xs : List (List UInt8)) (hl : xs.length * 16 ≤ 140737488355328) (hBx : Bx < w.heap.size) (hbox : w.cell? ⟨Bx, 0, none⟩ = some (.slice A xs.length c))
    (hrow : 0 < xs.length → ∃ b off, A = some ⟨b, off, none⟩ ∧ b < w.heap.size ∧ ∀ j x, xs[j]? = some x → w.cell? ⟨b, off + j, none⟩ = some (encStr x)) :
    Calls Tryd.prog 70 #[.func (.func 86) #[] #[.pointer (some ⟨Bx, 0, none⟩)]] w fun e w' => ∃ v, e = .returned v ∧ w'.ownsRow w.heap.size 9 1 v xs.length ((xs.mergeSort fun x y => decide (x ≤ y)).map encStr) ∧ (v = .slice none 0 0 ↔ xs = []) ∧ Below w.heap.size w w' := by
  refine (callsIn_wide (n := 7)).1 ?_
  have cS := (callsIn_wide (n := 6)).2 (collect_values Bx w A c xs hl hBx hbox hrow)
  refine callsIn_of_wp Tryd.func70 rfl trivial ?_ rfl
  simp only [Tryd.ntmps70, List.size_toArray, List.length_cons, List.length_nil, Nat.reduceAdd, Nat.reduceSub, Array.replicate_succ, Array.replicate_zero, List.push_toArray, List.append_toArray, List.nil_append, List.cons_append]
  have hfS : Fence.wide.fn 84 := trivial
  have hfT : Fence.wide.fn 85 := trivial
  gi_wp2_with (gi_at_call 84; refine cS.mono ?_; rintro e W ⟨v, rfl, hr, hnil, hb⟩)
  rcases hr.2 with ⟨rfl, hz⟩ | ⟨gb, cap, cur, rfl, hbase, hgb, r1, r2, r3, r4⟩
  · have hss : xs = [] := List.eq_nil_of_length_eq_zero hz
    subst hss
    have cT := (callsIn_wide (n := 6)).2 (Any.slices_Sort_string_none Tryd.sortL none 0 W)
    change CallsIn _ _ Tryd.prog 85 _ _ _ at cT
    gi_wp2_with (gi_at_call 85; refine cT.mono ?_; rintro e w' ⟨rfl, rfl⟩)
    go_ret
    exact ⟨_, rfl, by simpa using hr, by simp, hb⟩
  · have hH : Holds encStr W gb 0 xs.toArray := holds_of_block hgb (by simpa using r4)
    have hgl : gb < W.heap.size := (Array.getElem?_eq_some_iff.1 hgb).1
    have cT := (callsIn_wide (n := 6)).2 (Any.slices_Sort_string Tryd.sortL gb 0 cap xs W hH hgl (by omega))
    change CallsIn _ _ Tryd.prog 85 _ _ _ at cT
    gi_wp2_with (gi_at_call 85; refine cT.mono ?_; rintro e w' ⟨rfl, nn, os, rfl⟩)
    go_ret
    exact ⟨_, rfl, ownsRow_sorted (by simp) hbase hgb r1 r2 r3, hnil, hb.grown (grownBy_sorted _) hb.size (fun j hj => by cases hj; exact hbase)⟩
end Go.Proofs
namespace Go.Proofs.YteodeedejjcmgaaDoor.M
open Go Go.RowKit Go.Proofs.YteodeedejjcmgaaDoor.E
noncomputable def slices_Sorted_string (a0 : List (List UInt8)) : Option (List (List UInt8)) := chk (a0.length * 16 ≤ 140737488355328) (some (a0.mergeSort fun x y => decide (x ≤ y)))
noncomputable def slices_Compact_string (a0 : List (List UInt8)) : Option (List (List UInt8)) := some (Lib.compact a0)
end Go.Proofs.YteodeedejjcmgaaDoor.M
namespace Go.Proofs.YteodeedejjcmgaaDoor.M
open Go Go.RowKit Go.Proofs.YteodeedejjcmgaaDoor.E
set_option linter.unusedVariables false
theorem F_slices_Values {r w : World} {L : List HP} {A : Option Addr} {n c : Nat} (hS : SH r L w) :
    Ret Tryd.prog 71 #[.slice A n c] w fun v w' => ∃ g, v = .func (.func 86) #[] #[.pointer (some ⟨g, 0, none⟩)] ∧ SH r (blk g 91 [.slice A n c] :: L) w' := by
  refine enter Tryd.func71 rfl Tryd.ntmps71 [(0, .slice A n c)] rfl (by simp) ?_
  intro ac hA Qf hQ hQn
  refine wp_seq_k fun K1 hK1 => ?_
  refine wp_reg ?_
  refine x_box hA hS (fun g ac w hS hA => ?_) rfl rfl rfl rfl rfl rfl
  refine x_assign hA (fun ac hA => ?_) rfl rfl rfl rfl rfl
  refine wpList_nil ?_
  refine hK1 _ _ ?_
  refine wp_seq_k fun K2 hK2 => ?_
  refine wp_reg ?_
  refine x_val hA (r_makeFunc rfl (mapev (vals := #[]) hA rfl) (mapev (vals := #[.pointer (some ⟨g, 0, none⟩)]) hA rfl)) (fun ac hA => ?_) rfl rfl rfl
  refine x_assign hA (fun ac hA => ?_) rfl rfl rfl rfl rfl
  refine wpList_nil ?_
  refine hK2 _ _ ?_
  refine wp_ret ?_
  refine hQ _ _ ?_
  refine lv Tryd.results71 hA rfl ?_
  exact ⟨g, rfl, hS⟩
theorem F_slices_Sorted {r w : World} {L : List HP} (xs : List (List UInt8)) {g : Nat} {A : Option Addr} {n c : Nat} {y : List (List UInt8)} (hF : slices_Sorted_string xs = some y) (ha : RdL L kS A n c xs) (hS : SH r (blk g 91 [.slice A n c] :: L) w) :
    Ret Tryd.prog 70 #[.func (.func 86) #[] #[.pointer (some ⟨g, 0, none⟩)]] w fun v w' => ∃ (A' : Option Addr) (n' c' : Nat), v = .slice A' n' c' ∧ SH r (own kS 9 A' n' c' y :: L) w' := by
  obtain ⟨hsz, hF⟩ := chk_some hF
  cases hF
  obtain ⟨S1, S2, h1, h2, hd, hA, hL⟩ := hS.head
  have hg := hA.2
  have hgl : g < w.heap.size := (Array.getElem?_eq_some_iff.1 hg).1
  have hln := ha.ln
  subst hln
  refine Calls.mono (sorted_values g w A c xs hsz hgl (by simp [World.cell?, hg]) fun hpos => ?_) ?_
  · obtain ⟨ad, e, hr⟩ := ha.rd w S2 hL hpos
    have hc : ∀ j x, xs[j]? = some x → w.cell? (ad.add j) = some (encStr x) := fun j x hx => by
      obtain ⟨cs, hV, h3⟩ := hr j x hx
      have hV' : cs = [str x] := hV
      subst hV'
      have := h3 0 (str x) rfl
      rw [show j * kS.sz + 0 = j from by show j * 1 + 0 = j; omega] at this
      exact this
    obtain ⟨x, hx⟩ : ∃ x, xs[0]? = some x := ⟨_, List.getElem?_eq_getElem hpos⟩
    have h0 := hc 0 x hx
    obtain ⟨b, off, sp⟩ := ad
    have hsp : sp = none := by simpa [Addr.add] using World.cell?_spot h0
    subst hsp
    refine ⟨b, off, e, ?_, fun j x hx => ?_⟩
    · have : w.cell? ⟨b, off, none⟩ = some (encStr x) := by simpa [Addr.add] using h0
      unfold World.cell? at this
      split at this
      · rename_i hq; exact (Array.getElem?_eq_some_iff.1 hq).1
      · cases this
    · have := hc j x hx
      unfold Addr.add at this
      split at this
      · rename_i hj; subst hj; exact this
      · exact this
  · rintro ev w' ⟨v, rfl, hr, _, hb⟩
    obtain ⟨A', n', c', rfl, hS'⟩ := hS.tail.newrow (d := kS) (xs := xs.mergeSort fun x y => decide (x ≤ y)) hb (by rw [List.length_mergeSort]; exact hr) (lay_kS _)
    exact ⟨_, rfl, A', n', c', rfl, hS'⟩
theorem F_slices_Compact {r w : World} {L : List HP} (xs : List (List UInt8)) {A : Option Addr} {n c : Nat} {y : List (List UInt8)} (hF : slices_Compact_string xs = some y) (hS : SH r (own kS 9 A n c xs :: L) w) :
    Ret Tryd.prog 69 #[.slice A n c] w fun v w' => ∃ (A' : Option Addr) (n' c' : Nat), v = .slice A' n' c' ∧ SH r (own kS 9 A' n' c' y :: L) w' := by
  cases hF
  obtain ⟨S1, S2, h1, h2, hd, hA, hL⟩ := hS.head
  obtain ⟨hn, ⟨inner, hLy, ho⟩, hg⟩ := hA
  subst hn
  have hle := own_le (d := kS) (e := 9) ⟨rfl, ⟨inner, hLy, ho⟩, hg⟩
  obtain rfl := lay_kS_eq hLy
  rcases ho.2 with ⟨hv, h0⟩ | ⟨g, cap, cur, hv, hg0, hh, hnc, hcm, hs, ht⟩
  · injection hv with e1 e2 e3
    subst e1; subst e3
    have hx : xs = [] := List.eq_nil_of_length_eq_zero h0
    subst hx
    have cC := Any.slices_Compact_string_empty Tryd.compactL none 0 w
    change Calls Tryd.prog 69 _ _ _ at cC
    refine cC.mono ?_
    rintro ev w' ⟨rfl, rfl⟩
    exact ⟨_, rfl, none, 0, 0, rfl, hS⟩
  · injection hv with e1 e2 e3
    subst e1; subst e3
    have hH : Go.Sort.Holds encStr w g 0 xs.toArray := holds_of_block hh (by rw [show xs.length * kS.sz = xs.length from by show _ * 1 = _; omega] at ht; exact ht)
    have cC := Any.slices_Compact_string Tryd.compactL g 0 c xs w hH (by unfold maxLen at hcm; omega) hnc
    change Calls Tryd.prog 69 _ _ _ at cC
    refine cC.mono ?_
    rintro ev w' ⟨rfl, q, rfl⟩
    have hcl : (Lib.compact xs).length ≤ xs.length := compact_len xs
    refine ⟨_, rfl, some ⟨g, 0, none⟩, (Lib.compact xs).length, c, rfl, ?_⟩
    have hr := ownsRow_sorted (w := w) (base := 0) (n := q) (os := #[]) (ss := xs) (ts := Lib.compact xs ++ List.replicate (xs.length - (Lib.compact xs).length) []) (by simp; omega) (Nat.zero_le _) hh hnc hcm hs
    rw [Go.Sort.grow_empty] at hr
    have hgb := grownBy_sorted (w := w) (g := g) (n := q) (os := #[]) (Lib.compact xs ++ List.replicate (xs.length - (Lib.compact xs).length) ([] : List UInt8)).toArray
    rw [Go.Sort.grow_empty] at hgb
    obtain ⟨q1, q2, q3, q4, q5⟩ := hgb
    refine hS.upd (Ls := [own kS 9 (some ⟨g, 0, none⟩) (Lib.compact xs).length c (Lib.compact xs)]) h1 h2 hd hL q1 q2 q3 q4 (fun k hk hnk => q5 k hk fun e => hnk (by cases e; exact hg g rfl)) fun S hSS _ _ => ?_
    refine ⟨S, fun _ => False, fun k hk => hk, fun k hk => hk.elim, fun k _ hk => hk, ⟨rfl, ⟨_, lay_kS _, ?_⟩, fun k hk => by cases hk; exact hSS g (hg g rfl)⟩, trivial⟩
    refine ⟨by simp [kS], ?_⟩
    rcases hr.2 with ⟨hv2, _⟩ | ⟨g2, cap2, cur2, hv2, _, hh2, hnc2, hcm2, hs2, ht2⟩
    · cases hv2
    · injection hv2 with e1 e2 e3
      injection e1 with e1
      injection e1 with e1
      subst e1; subst e3
      refine .inr ⟨g, c, cur2, rfl, Nat.zero_le _, hh2, by omega, hcm2, hs2, ?_⟩
      have h5 := congrArg (List.take (Lib.compact xs).length) ht2
      rw [List.take_take, Nat.min_eq_left (by omega), List.map_append, List.take_left' (by simp)] at h5
      rw [show (Lib.compact xs).length * kS.sz = (Lib.compact xs).length from by show _ * 1 = _; omega]
      exact h5
end Go.Proofs.YteodeedejjcmgaaDoor.M
namespace Go.Proofs.YteodeedejjcmgaaDoor.M
open Go Go.RowKit Go.Proofs.YteodeedejjcmgaaDoor.E
set_option linter.unusedVariables false
set_option linter.unusedSimpArgs false
noncomputable def cmp_isNaN_string (a0 : (List UInt8)) : Option (Bool) :=
  some (!(a0 == a0))
noncomputable def slices_isNaN_string (a0 : (List UInt8)) : Option (Bool) :=
  some (!(a0 == a0))
noncomputable def cmp_Less_string (a0 : (List UInt8)) (a1 : (List UInt8)) : Option (Bool) :=
  (cmp_isNaN_string a0).bind fun y103 => (if y103 = true then ((cmp_isNaN_string a1).bind fun y106 => (if (!y106) = true then (some true) else (some (Op.bytesLess a0 a1)))) else (some (Op.bytesLess a0 a1)))
noncomputable def slices_BinarySearch_string_string_b1 (a0 : (List (List UInt8))) (a1 : (List UInt8)) (x520 : Int) : Option (Int × Bool) :=
  if (decide (x520 < (a0.length : Int))) = true then ((at_ a0 x520).bind fun x523 => (if (x523 == a1) = true then (some (x520, true)) else ((slices_isNaN_string x523).bind fun y528 => (if y528 = true then ((slices_isNaN_string a1).bind fun y531 => (some (x520, y531))) else (some (x520, false)))))) else (some (x520, false))
noncomputable def slices_BinarySearch_string_string_x1_0 (a0 : (List (List UInt8))) (a1 : (List UInt8)) (x625 : Int) : Option (Int × Bool) :=
  slices_BinarySearch_string_string_b1 a0 a1 x625
noncomputable def slices_BinarySearch_string_string_b2 (x649 : Int) (x650 : Int) : Option ((Int × Int) ⊕ ((Int))) :=
  some (.inl (x649, x650))
noncomputable def slices_BinarySearch_string_string_l1 (a0 : (List (List UInt8))) (a1 : (List UInt8)) (x578 : Int) (x579 : Int) : Option ((Int × Int) ⊕ ((Int))) :=
  if (decide (x578 < x579)) = true then (ltt (IntKind.i64.wrap (x578 + x579)) fun x652 => (ltt (IntKind.u64.wrap x652) fun x654 => (ltt (ishr .u64 x654 1) fun x656 => (ltt (IntKind.i64.wrap x656) fun x658 => ((at_ a0 x658).bind fun x661 => ((cmp_Less_string x661 a1).bind fun y664 => (if y664 = true then (ltt (IntKind.i64.wrap (x658 + 1)) fun x667 => (slices_BinarySearch_string_string_b2 x667 x579)) else (slices_BinarySearch_string_string_b2 x578 x658)))))))) else (some (.inr (x578)))
noncomputable def slices_BinarySearch_string_string (a0 : (List (List UInt8))) (a1 : (List UInt8)) : Option (Int × Bool) :=
  (loop (fun s => slices_BinarySearch_string_string_l1 a0 a1 s.1 s.2) (0, (a0.length : Int))).bind fun t => slices_BinarySearch_string_string_x1_0 a0 a1 t
noncomputable def r03_Texts_b3 (l35550 : (List Int)) (l52533 : (List Int)) : Option ((List Int)) :=
  (r03_Ints l52533).bind fun y52538 => (chk (l35550.length + y52538.length ≤ 140737488355328 / 1) (some (l35550 ++ y52538)))
noncomputable def r03_Texts_x1_6 (l35550 : (List Int)) (l56322 : (List Int)) : Option ((List Int)) :=
  r03_Texts_b3 l35550 l56322
noncomputable def r03_Texts_b4 (x54440 : Int) (l57966 : (List Int)) : Option (((List Int) × Int) ⊕ (((List Int)))) :=
  ltt (IntKind.i64.wrap (x54440 + 1)) fun x57970 => (some (.inl (l57966, x57970)))
noncomputable def r03_Texts_x2_8 (x54440 : Int) (l58127 : (List Int)) : Option (((List Int) × Int) ⊕ (((List Int)))) :=
  r03_Texts_b4 x54440 l58127
noncomputable def r03_Texts_b5 (x58051 : Int) (l58182 : (List Int)) : Option (((List Int) × Int) ⊕ (((List Int)))) :=
  ltt (IntKind.i64.wrap (x58051 + 1)) fun x58186 => (some (.inl (l58182, x58186)))
noncomputable def r03_Texts_l2 (a0 : (List (List UInt8))) (l35297 : (List (List UInt8))) (x54440 : Int) (l58047 : (List Int)) (x58051 : Int) : Option (((List Int) × Int) ⊕ (((List Int)))) :=
  if (decide (x58051 < (l35297.length : Int))) = true then ((at_ l35297 x58051).bind fun x58189 => ((at_ a0 x54440).bind fun x58192 => (if (x58189 == x58192) = true then (chk (l58047.length + [x58051].length ≤ 140737488355328 / 8) (r03_Texts_b5 x58051 (l58047 ++ [x58051]))) else (r03_Texts_b5 x58051 l58047)))) else (some (.inr (l58047)))
noncomputable def r03_Texts_l1 (a0 : (List (List UInt8))) (l35297 : (List (List UInt8))) (l54436 : (List Int)) (x54440 : Int) : Option (((List Int) × Int) ⊕ (((List Int)))) :=
  if (decide (x54440 < (a0.length : Int))) = true then ((loop (fun s => r03_Texts_l2 a0 l35297 x54440 s.1 s.2) (l54436, 0)).bind fun t => r03_Texts_x2_8 x54440 t) else (some (.inr (l54436)))
noncomputable def r03_Texts_b2 (a0 : (List (List UInt8))) (l35297 : (List (List UInt8))) (l35550 : (List Int)) : Option ((List Int)) :=
  (loop (fun s => r03_Texts_l1 a0 l35297 s.1 s.2) ([], 0)).bind fun t => r03_Texts_x1_6 l35550 t
noncomputable def r03_Texts_x3_4 (a0 : (List (List UInt8))) (l35297 : (List (List UInt8))) (l58254 : (List Int)) : Option ((List Int)) :=
  r03_Texts_b2 a0 l35297 l58254
noncomputable def r03_Texts_l3 (l35297 : (List (List UInt8))) (l58225 : (List Int)) (x58229 : Int) : Option (((List Int) × Int) ⊕ (((List Int)))) :=
  if (decide (x58229 < (l35297.length : Int))) = true then ((at_ l35297 x58229).bind fun x58264 => ((r03_Text x58264).bind fun y58267 => (chk (l58225.length + y58267.length ≤ 140737488355328 / 1) (ltt (IntKind.i64.wrap (x58229 + 1)) fun x58276 => (some (.inl (l58225 ++ y58267, x58276))))))) else (some (.inr (l58225)))
noncomputable def r03_Texts_b1 (a0 : (List (List UInt8))) (l35297 : (List (List UInt8))) : Option ((List Int)) :=
  ltt (IntKind.u64.wrap (l35297.length : Int)) fun x35302 => ((r03_Uint x35302).bind fun y35304 => ((loop (fun s => r03_Texts_l3 l35297 s.1 s.2) (y35304, 0)).bind fun t => r03_Texts_x3_4 a0 l35297 t))
noncomputable def r03_Texts_x4_0 (a0 : (List (List UInt8))) (l66101 : (List (List UInt8))) : Option ((List Int)) :=
  r03_Texts_b1 a0 l66101
noncomputable def r03_Texts_j1 (x62195 : Int) (l69026 : (List (List UInt8))) : Option (((List (List UInt8)) × Int) ⊕ (((List (List UInt8))))) :=
  ltt (IntKind.i64.wrap (x62195 + 1)) fun x69030 => (some (.inl (l69026, x69030)))
noncomputable def r03_Texts_b6 (a0 : (List (List UInt8))) (x62195 : Int) (l69010 : (List (List UInt8))) (b69014 : Bool) : Option (((List (List UInt8)) × Int) ⊕ (((List (List UInt8))))) :=
  if (!b69014) = true then ((at_ a0 x62195).bind fun x69034 => (chk (l69010.length + [x69034].length ≤ 140737488355328 / 16) (r03_Texts_j1 x62195 (l69010 ++ [x69034])))) else (r03_Texts_j1 x62195 l69010)
noncomputable def r03_Texts_x5_2 (a0 : (List (List UInt8))) (x62195 : Int) (l69678 : (List (List UInt8))) (b69682 : Bool) : Option (((List (List UInt8)) × Int) ⊕ (((List (List UInt8))))) :=
  r03_Texts_b6 a0 x62195 l69678 b69682
noncomputable def r03_Texts_b7 (x69351 : Int) (l69921 : (List (List UInt8))) (b69925 : Bool) : Option (((List (List UInt8)) × Bool × Int) ⊕ (((List (List UInt8)) × Bool))) :=
  ltt (IntKind.i64.wrap (x69351 + 1)) fun x69926 => (some (.inl (l69921, b69925, x69926)))
noncomputable def r03_Texts_j2 (a0 : (List (List UInt8))) (l62191 : (List (List UInt8))) (x62195 : Int) (x69351 : Int) (l69956 : (List (List UInt8))) (b69960 : Bool) : Option (((List (List UInt8)) × Bool × Int) ⊕ (((List (List UInt8)) × Bool))) :=
  (at_ l62191 x69351).bind fun x69962 => ((at_ a0 x62195).bind fun x69965 => (if (!(x69962 == x69965)) = true then (chk (l69956.length + [x69962].length ≤ 140737488355328 / 16) (r03_Texts_b7 x69351 (l69956 ++ [x69962]) b69960)) else (r03_Texts_b7 x69351 l69956 b69960)))
noncomputable def r03_Texts_j3 (a0 : (List (List UInt8))) (l62191 : (List (List UInt8))) (x62195 : Int) (l69346 : (List (List UInt8))) (b69350 : Bool) (x69351 : Int) (b69983 : Bool) : Option (((List (List UInt8)) × Bool × Int) ⊕ (((List (List UInt8)) × Bool))) :=
  if b69983 = true then ((at_ a0 x62195).bind fun x69986 => (chk (l69346.length + [x69986].length ≤ 140737488355328 / 16) (r03_Texts_j2 a0 l62191 x62195 x69351 (l69346 ++ [x69986]) true))) else (r03_Texts_j2 a0 l62191 x62195 x69351 l69346 b69350)
noncomputable def r03_Texts_l5 (a0 : (List (List UInt8))) (l62191 : (List (List UInt8))) (x62195 : Int) (l69346 : (List (List UInt8))) (b69350 : Bool) (x69351 : Int) : Option (((List (List UInt8)) × Bool × Int) ⊕ (((List (List UInt8)) × Bool))) :=
  if (decide (x69351 < (l62191.length : Int))) = true then (if (!b69350) = true then ((at_ l62191 x69351).bind fun x69995 => ((at_ a0 x62195).bind fun x69998 => (r03_Texts_j3 a0 l62191 x62195 l69346 b69350 x69351 (!Op.bytesLess x69995 x69998)))) else (r03_Texts_j3 a0 l62191 x62195 l69346 b69350 x69351 false)) else (some (.inr (l69346, b69350)))
noncomputable def r03_Texts_l4 (a0 : (List (List UInt8))) (l62191 : (List (List UInt8))) (x62195 : Int) : Option (((List (List UInt8)) × Int) ⊕ (((List (List UInt8))))) :=
  if (decide (x62195 < (a0.length : Int))) = true then ((loop (fun s => r03_Texts_l5 a0 l62191 x62195 s.1 s.2.1 s.2.2) ([], false, 0)).bind fun t => r03_Texts_x5_2 a0 x62195 t.1 t.2) else (some (.inr (l62191)))
noncomputable def r03_Texts (a0 : (List (List UInt8))) : Option ((List Int)) :=
  (loop (fun s => r03_Texts_l4 a0 s.1 s.2) ([], 0)).bind fun t => r03_Texts_x4_0 a0 t
noncomputable def column_Texts_b2 (l336 : (List Int)) (l606 : (List Int)) : Option ((List Int)) :=
  (column_Ints l606).bind fun y611 => (chk (l336.length + y611.length ≤ 140737488355328 / 1) (some (l336 ++ y611)))
noncomputable def column_Texts_x1_2 (l336 : (List Int)) (l681 : (List Int)) : Option ((List Int)) :=
  column_Texts_b2 l336 l681
noncomputable def column_Texts_l1 (a0 : (List (List UInt8))) (y109 : (List (List UInt8))) (l652 : (List Int)) (x656 : Int) : Option (((List Int) × Int) ⊕ (((List Int)))) :=
  if (decide (x656 < (a0.length : Int))) = true then ((at_ a0 x656).bind fun x692 => ((slices_BinarySearch_string_string y109 x692).bind fun y696 => (chk (l652.length + [y696.1].length ≤ 140737488355328 / 8) (ltt (IntKind.i64.wrap (x656 + 1)) fun x703 => (some (.inl (l652 ++ [y696.1], x703))))))) else (some (.inr (l652)))
noncomputable def column_Texts_b1 (a0 : (List (List UInt8))) (y109 : (List (List UInt8))) (l336 : (List Int)) : Option ((List Int)) :=
  (loop (fun s => column_Texts_l1 a0 y109 s.1 s.2) ([], 0)).bind fun t => column_Texts_x1_2 l336 t
noncomputable def column_Texts_x2_0 (a0 : (List (List UInt8))) (y109 : (List (List UInt8))) (l752 : (List Int)) : Option ((List Int)) :=
  column_Texts_b1 a0 y109 l752
noncomputable def column_Texts_l2 (y109 : (List (List UInt8))) (l726 : (List Int)) (x730 : Int) : Option (((List Int) × Int) ⊕ (((List Int)))) :=
  if (decide (x730 < (y109.length : Int))) = true then ((at_ y109 x730).bind fun x763 => ((column_Text l726 x763).bind fun y766 => (ltt (IntKind.i64.wrap (x730 + 1)) fun x771 => (some (.inl (y766, x771)))))) else (some (.inr (l726)))
noncomputable def column_Texts (a0 : (List (List UInt8))) : Option ((List Int)) :=
  (slices_Sorted_string a0).bind fun y104 => ((slices_Compact_string y104).bind fun y109 => (ltt (IntKind.u64.wrap (y109.length : Int)) fun x115 => ((column_Uint [] x115).bind fun y117 => ((loop (fun s => column_Texts_l2 y109 s.1 s.2) (y117, 0)).bind fun t => column_Texts_x2_0 a0 y109 t))))
end Go.Proofs.YteodeedejjcmgaaDoor.M
namespace Go.Proofs.YteodeedejjcmgaaDoor.M
open Go Go.RowKit Go.Proofs.YteodeedejjcmgaaDoor.E
set_option linter.unusedVariables false
set_option maxRecDepth 100000
set_option maxHeartbeats 4000000
set_option linter.unusedSimpArgs false
theorem F_cmp_isNaN_string {r : World} {L : List HP} {w : World} (a0 : (List UInt8)) {y : (Bool)} (hF : cmp_isNaN_string a0 = some y) (hS : SH r (L) w) :
  Ret Tryd.prog 101 #[str a0] w fun v w' => v = .bool y ∧ SH r (L) w' := by
 refine enter Tryd.func101 rfl Tryd.ntmps101 [(0, str a0)] rfl (by simp) ?_
 intro ac hA Qf hQ hQn
 unfold cmp_isNaN_string at hF
 refine ws fun K101 hK101 => ?_
 refine x_m hA rfl fun ac hA => ?_
 refine wn (hK101 _ _ ?_)
 refine ws fun K102 hK102 => ?_
 refine x_m hA rfl fun ac hA => ?_
 refine x_m hA rfl fun ac hA => ?_
 refine x_v hA (r_neS rfl (hA.ev rfl) (hA.ev rfl)) rfl fun ac hA => ?_
 refine x_m hA rfl fun ac hA => ?_
 refine wn (hK102 _ _ ?_)
 refine wp_ret ?_
 cases hF
 refine hQ _ _ ?_
 refine lv Tryd.results101 hA rfl ?_
 exact ⟨rfl, hS⟩
theorem F_slices_isNaN_string {r : World} {L : List HP} {w : World} (a0 : (List UInt8)) {y : (Bool)} (hF : slices_isNaN_string a0 = some y) (hS : SH r (L) w) :
  Ret Tryd.prog 88 #[str a0] w fun v w' => v = .bool y ∧ SH r (L) w' := by
 refine enter Tryd.func88 rfl Tryd.ntmps88 [(0, str a0)] rfl (by simp) ?_
 intro ac hA Qf hQ hQn
 unfold slices_isNaN_string at hF
 refine ws fun K101 hK101 => ?_
 refine x_m hA rfl fun ac hA => ?_
 refine wn (hK101 _ _ ?_)
 refine ws fun K102 hK102 => ?_
 refine x_m hA rfl fun ac hA => ?_
 refine x_m hA rfl fun ac hA => ?_
 refine x_v hA (r_neS rfl (hA.ev rfl) (hA.ev rfl)) rfl fun ac hA => ?_
 refine x_m hA rfl fun ac hA => ?_
 refine wn (hK102 _ _ ?_)
 refine wp_ret ?_
 cases hF
 refine hQ _ _ ?_
 refine lv Tryd.results88 hA rfl ?_
 exact ⟨rfl, hS⟩
theorem F_cmp_Less_string {r : World} {L : List HP} {w : World} (a0 : (List UInt8)) (a1 : (List UInt8)) {y : (Bool)} (hF : cmp_Less_string a0 a1 = some y) (hS : SH r (L) w) :
  Ret Tryd.prog 87 #[str a0, str a1] w fun v w' => v = .bool y ∧ SH r (L) w' := by
 refine enter Tryd.func87 rfl Tryd.ntmps87 [(0, str a0), (1, str a1)] rfl (by simp) ?_
 intro ac hA Qf hQ hQn
 unfold cmp_Less_string at hF
 refine ws fun K101 hK101 => ?_
 refine x_m hA rfl fun ac hA => ?_
 refine wn (hK101 _ _ ?_)
 refine ws fun K102 hK102 => ?_
 refine x_m hA rfl fun ac hA => ?_
 obtain ⟨y103, h104, hF⟩ := bnd hF
 refine x_call en101 hA (F_cmp_isNaN_string (L := L) a0 h104 hS) (fun v ac w hR hA => ?_) rfl rfl rfl rfl rfl
 obtain ⟨rfl, hS⟩ := hR
 refine x_m hA rfl fun ac hA => ?_
 refine bcase (b := y103) (fun hb105 => ?_) fun hb105 => ?_
 ·replace hF := ift hb105 hF
  refine x_on hb105 hA ?_ rfl rfl rfl
  refine x_m hA rfl fun ac hA => ?_
  refine x_on hb105 hA ?_ rfl rfl rfl
  obtain ⟨y106, h107, hF⟩ := bnd hF
  refine x_call en101 hA (F_cmp_isNaN_string (L := L) a1 h107 hS) (fun v ac w hR hA => ?_) rfl rfl rfl rfl rfl
  obtain ⟨rfl, hS⟩ := hR
  refine x_on hb105 hA ?_ rfl rfl rfl
  refine x_v hA (r_not rfl (hA.ev rfl)) rfl fun ac hA => ?_
  refine x_pickt hb105 hA (fun ac hA => ?_) rfl rfl rfl rfl rfl rfl
  refine x_m hA rfl fun ac hA => ?_
  refine bcase (b := !y106) (fun hb108 => ?_) fun hb108 => ?_
  ·replace hF := ift hb108 hF
   refine x_off hb108 hA (fun ac hA => ?_) rfl rfl rfl rfl rfl
   refine x_off hb108 hA (fun ac hA => ?_) rfl rfl rfl rfl rfl
   refine x_off hb108 hA (fun ac hA => ?_) rfl rfl rfl rfl rfl
   refine x_pickt hb108 hA (fun ac hA => ?_) rfl rfl rfl rfl rfl rfl
   refine x_m hA rfl fun ac hA => ?_
   refine wn (hK102 _ _ ?_)
   refine wp_ret ?_
   cases hF
   refine hQ _ _ ?_
   refine lv Tryd.results87 hA rfl ?_
   exact ⟨rfl, hS⟩
  replace hF := iff' hb108 hF
  refine x_on hb108 hA ?_ rfl rfl rfl
  refine x_m hA rfl fun ac hA => ?_
  refine x_on hb108 hA ?_ rfl rfl rfl
  refine x_m hA rfl fun ac hA => ?_
  refine x_on hb108 hA ?_ rfl rfl rfl
  refine x_v hA (r_ltS rfl (hA.ev rfl) (hA.ev rfl)) rfl fun ac hA => ?_
  refine x_pickf hb108 hA (fun ac hA => ?_) rfl rfl rfl rfl rfl rfl
  refine x_m hA rfl fun ac hA => ?_
  refine wn (hK102 _ _ ?_)
  refine wp_ret ?_
  cases hF
  refine hQ _ _ ?_
  refine lv Tryd.results87 hA rfl ?_
  exact ⟨rfl, hS⟩
 replace hF := iff' hb105 hF
 refine x_off hb105 hA (fun ac hA => ?_) rfl rfl rfl rfl rfl
 refine x_off hb105 hA (fun ac hA => ?_) rfl rfl rfl rfl rfl
 refine x_off hb105 hA (fun ac hA => ?_) rfl rfl rfl rfl rfl
 refine x_pickf hb105 hA (fun ac hA => ?_) rfl rfl rfl rfl rfl rfl
 refine x_m hA rfl fun ac hA => ?_
 refine x_on rfl hA ?_ rfl rfl rfl
 refine x_m hA rfl fun ac hA => ?_
 refine x_on rfl hA ?_ rfl rfl rfl
 refine x_m hA rfl fun ac hA => ?_
 refine x_on rfl hA ?_ rfl rfl rfl
 refine x_v hA (r_ltS rfl (hA.ev rfl) (hA.ev rfl)) rfl fun ac hA => ?_
 refine x_pickf rfl hA (fun ac hA => ?_) rfl rfl rfl rfl rfl rfl
 refine x_m hA rfl fun ac hA => ?_
 refine wn (hK102 _ _ ?_)
 refine wp_ret ?_
 cases hF
 refine hQ _ _ ?_
 refine lv Tryd.results87 hA rfl ?_
 exact ⟨rfl, hS⟩
theorem F_slices_BinarySearch_string_string {r : World} {L : List HP} {w : World} (a0 : (List (List UInt8))) (a1 : (List UInt8)) (A0 : Option Addr) (n0 : Nat) (c0 : Nat) {y : (Int × Bool)} (hF : slices_BinarySearch_string_string a0 a1 = some y) (ha0 : RdL L kS A0 n0 c0 a0) (hS : SH r (L) w) :
  Ret Tryd.prog 72 #[.slice A0 n0 c0, str a1] w fun v w' => v = .tuple #[(.int .i64 y.1), (.bool y.2)] ∧ SH r (L) w' := by
 refine enter Tryd.func72 rfl Tryd.ntmps72 [(0, .slice A0 n0 c0), (1, str a1)] rfl (by simp) ?_
 intro ac hA Qf hQ hQn
 unfold slices_BinarySearch_string_string at hF
 refine ws fun K101 hK101 => ?_
 refine x_m hA rfl fun ac hA => ?_
 refine x_m hA rfl fun ac hA => ?_
 refine wn (hK101 _ _ ?_)
 refine ws fun K102 hK102 => ?_
 refine x_m hA rfl fun ac hA => ?_
 refine x_len Tryd.underlying91 (hS.rdl 0 ha0 rfl).2.1 hA (fun ac hA => ?_) rfl rfl rfl rfl rfl
 refine x_m hA rfl fun ac hA => ?_
 refine wn (hK102 _ _ ?_)
 refine ws fun K103 hK103 => ?_
 refine x_m hA rfl fun ac hA => ?_
 refine x_m hA rfl fun ac hA => ?_
 refine x_m hA rfl fun ac hA => ?_
 refine wn (hK103 _ _ ?_)
 refine wp_seq_k fun K104 hK104 => ?_
 refine wp_block_k fun Kx382 hKx382 => ?_
 have hb1 : ∀ (x520 : Int), slices_BinarySearch_string_string_b1 a0 a1 x520 = some y → ∀ (ac : Act) (w : World), FR 54 [] ac [(0, .slice A0 n0 c0), (1, str a1), (6, .int .i64 (a0.length : Int)), (7, .int .i64 x520)] → SH r (L) w → Kx382 ac w := by
  intro x520 hF ac w hA hS
  unfold slices_BinarySearch_string_string_b1 at hF
  refine hKx382 _ _ ?_
  refine hK104 _ _ ?_
  refine ws fun K521 hK521 => ?_
  refine x_m hA rfl fun ac hA => ?_
  refine x_m hA rfl fun ac hA => ?_
  refine x_m hA rfl fun ac hA => ?_
  refine x_v hA (r_ltI rfl (hA.ev rfl) (hA.ev rfl)) rfl fun ac hA => ?_
  refine x_m hA rfl fun ac hA => ?_
  refine bcase (b := decide (x520 < (a0.length : Int))) (fun hb522 => ?_) fun hb522 => ?_
  ·replace hF := ift hb522 hF
   refine x_on hb522 hA ?_ rfl rfl rfl
   refine x_m hA rfl fun ac hA => ?_
   refine x_on hb522 hA ?_ rfl rfl rfl
   refine x_m hA rfl fun ac hA => ?_
   refine x_on hb522 hA ?_ rfl rfl rfl
   obtain ⟨x523, h524, hF⟩ := bnd hF
   refine x_ia Tryd.underlying91 sz9 (hS.rdl 0 ha0 rfl) h524 hA (fun ac hA => ?_) rfl rfl rfl rfl rfl rfl
   refine x_on hb522 hA ?_ rfl rfl rfl
   obtain ⟨cs, hV, hc525⟩ := el (hS.rdl 0 ha0 rfl) h524
   obtain rfl := hV
   refine x_ld Tryd.underlying9 (hc525 0 _ rfl) hA (fun ac hA => ?_) rfl rfl rfl rfl rfl rfl
   refine x_on hb522 hA ?_ rfl rfl rfl
   refine x_m hA rfl fun ac hA => ?_
   refine x_on hb522 hA ?_ rfl rfl rfl
   refine x_v hA (r_eqS rfl (hA.ev rfl) (hA.ev rfl)) rfl fun ac hA => ?_
   refine x_on hb522 hA ?_ rfl rfl rfl
   refine x_m hA rfl fun ac hA => ?_
   refine bcase (b := x523 == a1) (fun hb526 => ?_) fun hb526 => ?_
   ·replace hF := ift hb526 hF
    refine x_off hb526 hA (fun ac hA => ?_) rfl rfl rfl rfl rfl
    refine x_off hb526 hA (fun ac hA => ?_) rfl rfl rfl rfl rfl
    refine x_off hb526 hA (fun ac hA => ?_) rfl rfl rfl rfl rfl
    refine x_off hb526 hA (fun ac hA => ?_) rfl rfl rfl rfl rfl
    refine x_off hb526 hA (fun ac hA => ?_) rfl rfl rfl rfl rfl
    refine x_off hb526 hA (fun ac hA => ?_) rfl rfl rfl rfl rfl
    refine x_offU hA (fun ac hA => ?_) rfl rfl rfl rfl rfl
    refine x_offU hA (fun ac hA => ?_) rfl rfl rfl rfl rfl
    refine x_off hb526 hA (fun ac hA => ?_) rfl rfl rfl rfl rfl
    refine x_on hb522 hA ?_ rfl rfl rfl
    refine x_pickt hb526 hA (fun ac hA => ?_) rfl rfl rfl rfl rfl rfl
    refine x_pickt hb522 hA (fun ac hA => ?_) rfl rfl rfl rfl rfl rfl
    refine x_m hA rfl fun ac hA => ?_
    refine x_m hA rfl fun ac hA => ?_
    refine wn (hK521 _ _ ?_)
    refine wp_ret ?_
    cases hF
    refine hQ _ _ ?_
    refine lv2 Tryd.results72 hA rfl rfl ?_
    exact ⟨rfl, hS⟩
   replace hF := iff' hb526 hF
   refine x_on hb526 hA ?_ rfl rfl rfl
   refine x_m hA rfl fun ac hA => ?_
   refine x_on hb526 hA ?_ rfl rfl rfl
   refine x_m hA rfl fun ac hA => ?_
   refine x_on hb526 hA ?_ rfl rfl rfl
   refine x_ia Tryd.underlying91 sz9 (hS.rdl 0 ha0 rfl) h524 hA (fun ac hA => ?_) rfl rfl rfl rfl rfl rfl
   refine x_on hb526 hA ?_ rfl rfl rfl
   obtain ⟨cs, hV, hc527⟩ := el (hS.rdl 0 ha0 rfl) h524
   obtain rfl := hV
   refine x_ld Tryd.underlying9 (hc527 0 _ rfl) hA (fun ac hA => ?_) rfl rfl rfl rfl rfl rfl
   refine x_on hb526 hA ?_ rfl rfl rfl
   obtain ⟨y528, h529, hF⟩ := bnd hF
   refine x_call en88 hA (F_slices_isNaN_string (L := L) x523 h529 hS) (fun v ac w hR hA => ?_) rfl rfl rfl rfl rfl
   obtain ⟨rfl, hS⟩ := hR
   refine x_on hb526 hA ?_ rfl rfl rfl
   refine x_m hA rfl fun ac hA => ?_
   refine bcase (b := y528) (fun hb530 => ?_) fun hb530 => ?_
   ·replace hF := ift hb530 hF
    refine x_on hb530 hA ?_ rfl rfl rfl
    refine x_m hA rfl fun ac hA => ?_
    refine x_on hb530 hA ?_ rfl rfl rfl
    obtain ⟨y531, h532, hF⟩ := bnd hF
    refine x_call en88 hA (F_slices_isNaN_string (L := L) a1 h532 hS) (fun v ac w hR hA => ?_) rfl rfl rfl rfl rfl
    obtain ⟨rfl, hS⟩ := hR
    refine x_on hb526 hA ?_ rfl rfl rfl
    refine x_pickt hb530 hA (fun ac hA => ?_) rfl rfl rfl rfl rfl rfl
    refine x_on hb522 hA ?_ rfl rfl rfl
    refine x_pickf hb526 hA (fun ac hA => ?_) rfl rfl rfl rfl rfl rfl
    refine x_pickt hb522 hA (fun ac hA => ?_) rfl rfl rfl rfl rfl rfl
    refine x_m hA rfl fun ac hA => ?_
    refine x_m hA rfl fun ac hA => ?_
    refine wn (hK521 _ _ ?_)
    refine wp_ret ?_
    cases hF
    refine hQ _ _ ?_
    refine lv2 Tryd.results72 hA rfl rfl ?_
    exact ⟨rfl, hS⟩
   replace hF := iff' hb530 hF
   refine x_off hb530 hA (fun ac hA => ?_) rfl rfl rfl rfl rfl
   refine x_off hb530 hA (fun ac hA => ?_) rfl rfl rfl rfl rfl
   refine x_on hb526 hA ?_ rfl rfl rfl
   refine x_pickf hb530 hA (fun ac hA => ?_) rfl rfl rfl rfl rfl rfl
   refine x_on hb522 hA ?_ rfl rfl rfl
   refine x_pickf hb526 hA (fun ac hA => ?_) rfl rfl rfl rfl rfl rfl
   refine x_pickt hb522 hA (fun ac hA => ?_) rfl rfl rfl rfl rfl rfl
   refine x_m hA rfl fun ac hA => ?_
   refine x_m hA rfl fun ac hA => ?_
   refine wn (hK521 _ _ ?_)
   refine wp_ret ?_
   cases hF
   refine hQ _ _ ?_
   refine lv2 Tryd.results72 hA rfl rfl ?_
   exact ⟨rfl, hS⟩
  replace hF := iff' hb522 hF
  refine x_off hb522 hA (fun ac hA => ?_) rfl rfl rfl rfl rfl
  refine x_off hb522 hA (fun ac hA => ?_) rfl rfl rfl rfl rfl
  refine x_off hb522 hA (fun ac hA => ?_) rfl rfl rfl rfl rfl
  refine x_off hb522 hA (fun ac hA => ?_) rfl rfl rfl rfl rfl
  refine x_off hb522 hA (fun ac hA => ?_) rfl rfl rfl rfl rfl
  refine x_off hb522 hA (fun ac hA => ?_) rfl rfl rfl rfl rfl
  refine x_off hb522 hA (fun ac hA => ?_) rfl rfl rfl rfl rfl
  refine x_offU hA (fun ac hA => ?_) rfl rfl rfl rfl rfl
  refine x_offU hA (fun ac hA => ?_) rfl rfl rfl rfl rfl
  refine x_offU hA (fun ac hA => ?_) rfl rfl rfl rfl rfl
  refine x_offU hA (fun ac hA => ?_) rfl rfl rfl rfl rfl
  refine x_offU hA (fun ac hA => ?_) rfl rfl rfl rfl rfl
  refine x_offU hA (fun ac hA => ?_) rfl rfl rfl rfl rfl
  refine x_offU hA (fun ac hA => ?_) rfl rfl rfl rfl rfl
  refine x_offU hA (fun ac hA => ?_) rfl rfl rfl rfl rfl
  refine x_offU hA (fun ac hA => ?_) rfl rfl rfl rfl rfl
  refine x_off hb522 hA (fun ac hA => ?_) rfl rfl rfl rfl rfl
  refine x_pickf hb522 hA (fun ac hA => ?_) rfl rfl rfl rfl rfl rfl
  refine x_m hA rfl fun ac hA => ?_
  refine x_m hA rfl fun ac hA => ?_
  refine wn (hK521 _ _ ?_)
  refine wp_ret ?_
  cases hF
  refine hQ _ _ ?_
  refine lv2 Tryd.results72 hA rfl rfl ?_
  exact ⟨rfl, hS⟩
 obtain ⟨t625, hl625, hF⟩ := bnd hF
 have hx625_0 : ∀ (x625 : Int), (x625) = t625 → ∀ (ac : Act) (w : World), FR 54 [] ac [(0, .slice A0 n0 c0), (1, str a1), (6, .int .i64 (a0.length : Int)), (7, .int .i64 x625)] → SH r (L) w → Kx382 ac w := by
  intro x625 ht ac w hA hS
  subst ht
  replace hF : slices_BinarySearch_string_string_x1_0 a0 a1 x625 = some y := hF
  unfold slices_BinarySearch_string_string_x1_0 at hF
  exact hb1 x625 hF ac w (hA.sub _ rfl) hS
 refine wp_loop_fn hl625 (fun s ac w => FR 54 [] ac [(0, .slice A0 n0 c0), (1, str a1), (6, .int .i64 (a0.length : Int)), (7, .int .i64 s.1), (8, .int .i64 s.2)] ∧ SH r (L) w) ⟨hA.sub _ rfl, hS⟩ ?_
 intro N625 s625 o625 hF N625_ T625_ ac w hLab
 obtain ⟨x578, x579⟩ := s625
 replace hF : slices_BinarySearch_string_string_l1 a0 a1 x578 x579 = some o625 := hF
 unfold slices_BinarySearch_string_string_l1 at hF
 try dsimp only at hLab
 obtain ⟨hA, hS⟩ := hLab
 refine wp_seq_k fun K627 hK627 => ?_
 refine ws fun K628 hK628 => ?_
 refine x_m hA rfl fun ac hA => ?_
 refine x_m hA rfl fun ac hA => ?_
 refine x_v hA (r_ltI rfl (hA.ev rfl) (hA.ev rfl)) rfl fun ac hA => ?_
 refine wn (hK628 _ _ ?_)
 refine c_if hA rfl (fun hb629 => ?_) fun hb629 => ?_
 ·replace hF := ift hb629 hF
  refine wp_skip ?_
  refine hK627 _ _ ?_
  refine wp_block_k fun Kx630 hKx630 => ?_
  have hb2 : ∀ (x649 : Int) (x650 : Int), slices_BinarySearch_string_string_b2 x649 x650 = some o625 → ∀ (ac : Act) (w : World), FR 54 [] ac [(0, .slice A0 n0 c0), (1, str a1), (6, .int .i64 (a0.length : Int)), (7, .int .i64 x649), (8, .int .i64 x650)] → SH r (L) w → Kx630 ac w := by
   intro x649 x650 hF ac w hA hS
   unfold slices_BinarySearch_string_string_b2 at hF
   refine hKx630 _ _ ?_
   cases hF
   exact ⟨_, N625_ _ rfl, hA.sub _ rfl, hS⟩
  refine ws fun K651 hK651 => ?_
  refine x_m hA rfl fun ac hA => ?_
  refine x_m hA rfl fun ac hA => ?_
  obtain ⟨x652, h653, hF⟩ := ltt_ hF
  refine x_v (v := .int .i64 x652) hA (rv_i h653 (r_add rfl (hA.ev rfl) (hA.ev rfl))) rfl fun ac hA => ?_
  obtain ⟨x654, h655, hF⟩ := ltt_ hF
  refine x_v (v := .int .u64 x654) hA (rv_i h655 (r_convI Tryd.underlying3 Tryd.underlying73 rfl (hA.ev rfl))) rfl fun ac hA => ?_
  obtain ⟨x656, h657, hF⟩ := ltt_ hF
  refine x_v (v := .int .u64 x656) hA (rv_i h657 (r_shr rfl (hA.ev rfl) (hA.ev rfl) (by decide))) rfl fun ac hA => ?_
  obtain ⟨x658, h659, hF⟩ := ltt_ hF
  refine x_v (v := .int .i64 x658) hA (rv_i h659 (r_convI Tryd.underlying73 Tryd.underlying3 rfl (hA.ev rfl))) rfl fun ac hA => ?_
  refine x_m hA rfl fun ac hA => ?_
  refine wn (hK651 _ _ ?_)
  refine ws fun K660 hK660 => ?_
  refine x_m hA rfl fun ac hA => ?_
  refine x_m hA rfl fun ac hA => ?_
  obtain ⟨x661, h662, hF⟩ := bnd hF
  refine x_ia Tryd.underlying91 sz9 (hS.rdl 0 ha0 rfl) h662 hA (fun ac hA => ?_) rfl rfl rfl rfl rfl rfl
  obtain ⟨cs, hV, hc663⟩ := el (hS.rdl 0 ha0 rfl) h662
  obtain rfl := hV
  refine x_ld Tryd.underlying9 (hc663 0 _ rfl) hA (fun ac hA => ?_) rfl rfl rfl rfl rfl rfl
  refine x_m hA rfl fun ac hA => ?_
  obtain ⟨y664, h665, hF⟩ := bnd hF
  refine x_call en87 hA (F_cmp_Less_string (L := L) x661 a1 h665 hS) (fun v ac w hR hA => ?_) rfl rfl rfl rfl rfl
  obtain ⟨rfl, hS⟩ := hR
  refine wn (hK660 _ _ ?_)
  refine c_if hA rfl (fun hb666 => ?_) fun hb666 => ?_
  ·replace hF := ift hb666 hF
   refine wp_reg ?_
   refine x_m hA rfl fun ac hA => ?_
   obtain ⟨x667, h668, hF⟩ := ltt_ hF
   refine x_v (v := .int .i64 x667) hA (rv_i h668 (r_add rfl (hA.ev rfl) (hA.ev rfl))) rfl fun ac hA => ?_
   refine x_m hA rfl fun ac hA => ?_
   refine wpList_nil ?_
   exact hb2 x667 x579 hF ac w (hA.sub _ rfl) hS
  replace hF := iff' hb666 hF
  refine wp_reg ?_
  refine x_m hA rfl fun ac hA => ?_
  refine x_m hA rfl fun ac hA => ?_
  refine wpList_nil ?_
  exact hb2 x578 x658 hF ac w (hA.sub _ rfl) hS
 replace hF := iff' hb629 hF
 refine wp_exit ?_
 cases hF
 exact hx625_0 x578 (T625_ _ rfl) ac w (hA.sub _ rfl) hS
theorem F_r03_Texts {r : World} {L : List HP} {w : World} (a0 : (List (List UInt8))) (A0 : Option Addr) (n0 : Nat) (c0 : Nat) {y : ((List Int))} (hF : r03_Texts a0 = some y) (ha0 : RdL L kS A0 n0 c0 a0) (hS : SH r (L) w) :
  Ret Tryd.prog 52 #[.slice A0 n0 c0] w fun v w' => ∃ (B0 : Option Addr) (m0 : Nat) (d0 : Nat), v = .slice B0 m0 d0 ∧ SH r (own (kI .u8) 5 B0 m0 d0 y :: L) w' := by
 refine enter Tryd.func52 rfl Tryd.ntmps52 [(0, .slice A0 n0 c0)] rfl (by simp) ?_
 intro ac hA Qf hQ hQn
 unfold r03_Texts at hF
 refine ws fun K101 hK101 => ?_
 refine x_m hA rfl fun ac hA => ?_
 refine wn (hK101 _ _ ?_)
 refine ws fun K102 hK102 => ?_
 refine x_m hA rfl fun ac hA => ?_
 refine wn (hK102 _ _ ?_)
 refine wp_seq_k fun K103 hK103 => ?_
 refine ws fun K23567 hK23567 => ?_
 refine x_m hA rfl fun ac hA => ?_
 refine wn (hK23567 _ _ ?_)
 refine wp_block_k fun Kx23568 hKx23568 => ?_
 have hb1 : ∀ (l35297 : (List (List UInt8))), r03_Texts_b1 a0 l35297 = some y → ∀ (A35298 : Option Addr) (n35299 : Nat) (c35300 : Nat) (ac : Act) (w : World), FR 117 [] ac [(0, .slice A0 n0 c0), (3, .slice A35298 n35299 c35300)] → SH r (own kS 9 A35298 n35299 c35300 l35297 :: L) w → Kx23568 ac w := by
  intro l35297 hF A35298 n35299 c35300 ac w hA hS
  unfold r03_Texts_b1 at hF
  refine hKx23568 _ _ ?_
  refine hK103 _ _ ?_
  refine ws fun K35301 hK35301 => ?_
  refine x_m hA rfl fun ac hA => ?_
  refine x_len Tryd.underlying91 (hS.rd 0 rfl).2.1 hA (fun ac hA => ?_) rfl rfl rfl rfl rfl
  obtain ⟨x35302, h35303, hF⟩ := ltt_ hF
  refine x_v (v := .int .u64 x35302) hA (rv_i h35303 (r_convI Tryd.underlying3 Tryd.underlying31 rfl (hA.ev rfl))) rfl fun ac hA => ?_
  obtain ⟨y35304, h35305, hF⟩ := bnd hF
  refine x_call en32 hA (F_r03_Uint (L := own kS 9 A35298 n35299 c35300 l35297 :: L) x35302 h35305 hS) (fun v ac w hR hA => ?_) rfl rfl rfl rfl rfl
  obtain ⟨B35306, m35307, d35308, rfl, hS⟩ := hR
  refine x_m hA rfl fun ac hA => ?_
  refine wn (hK35301 _ _ ?_)
  refine wp_seq_k fun K35309 hK35309 => ?_
  refine ws fun K35471 hK35471 => ?_
  refine x_m hA rfl fun ac hA => ?_
  refine wn (hK35471 _ _ ?_)
  refine wp_block_k fun Kx35472 hKx35472 => ?_
  have hb2 : ∀ (l35550 : (List Int)), r03_Texts_b2 a0 l35297 l35550 = some y → ∀ (A35551 : Option Addr) (n35552 : Nat) (c35553 : Nat) (ac : Act) (w : World), FR 117 [] ac [(0, .slice A0 n0 c0), (3, .slice A35298 n35299 c35300), (8, .slice A35551 n35552 c35553)] → SH r (own kS 9 A35298 n35299 c35300 l35297 :: own (kI .u8) 5 A35551 n35552 c35553 l35550 :: L) w → Kx35472 ac w := by
   intro l35550 hF A35551 n35552 c35553 ac w hA hS
   unfold r03_Texts_b2 at hF
   refine hKx35472 _ _ ?_
   refine hK35309 _ _ ?_
   refine ws fun K35554 hK35554 => ?_
   refine x_m hA rfl fun ac hA => ?_
   refine wn (hK35554 _ _ ?_)
   refine wp_seq_k fun K35555 hK35555 => ?_
   refine ws fun K46875 hK46875 => ?_
   refine x_m hA rfl fun ac hA => ?_
   refine wn (hK46875 _ _ ?_)
   refine wp_block_k fun Kx46876 hKx46876 => ?_
   have hb3 : ∀ (l52533 : (List Int)), r03_Texts_b3 l35550 l52533 = some y → ∀ (A52534 : Option Addr) (n52535 : Nat) (c52536 : Nat) (ac : Act) (w : World), FR 117 [] ac [(8, .slice A35551 n35552 c35553), (10, .slice A52534 n52535 c52536)] → SH r (own (kI .u8) 5 A35551 n35552 c35553 l35550 :: own (kI .i64) 2 A52534 n52535 c52536 l52533 :: L) w → Kx46876 ac w := by
    intro l52533 hF A52534 n52535 c52536 ac w hA hS
    unfold r03_Texts_b3 at hF
    refine hKx46876 _ _ ?_
    refine hK35555 _ _ ?_
    refine ws fun K52537 hK52537 => ?_
    refine x_m hA rfl fun ac hA => ?_
    refine x_m hA rfl fun ac hA => ?_
    obtain ⟨y52538, h52539, hF⟩ := bnd hF
    refine x_call en51 hA (F_r03_Ints (L := own (kI .u8) 5 A35551 n35552 c35553 l35550 :: own (kI .i64) 2 A52534 n52535 c52536 l52533 :: L) l52533 A52534 n52535 c52536 h52539 (RdL.own 1 rfl (hS.dropN 0)) hS) (fun v ac w hR hA => ?_) rfl rfl rfl rfl rfl
    obtain ⟨B52540, m52541, d52542, rfl, hS⟩ := hR
    obtain ⟨h52543, hF⟩ := chk_some hF
    have hr := hS.rd 0 rfl
    refine x_app 1 inf5 Tryd.underlying24 hA hS hr.1 hr.2.1 h52543 rfl (fun A52544 n52545 c52546 ac w hS hA => ?_) rfl rfl rfl rfl rfl rfl rfl rfl rfl
    refine x_m hA rfl fun ac hA => ?_
    refine wn (hK52537 _ _ ?_)
    refine wp_ret ?_
    replace hS := hS.drop 1
    replace hS := hS.drop 1
    cases hF
    refine hQ _ _ ?_
    refine lv Tryd.results52 hA rfl ?_
    exact ⟨A52544, n52545, c52546, rfl, hS⟩
   obtain ⟨t56325, hl56325, hF⟩ := bnd hF
   have hx56325_6 : ∀ (l56322 : (List Int)), (l56322) = t56325 → ∀ (A56323 : Option Addr) (n56324 : Nat) (c56325 : Nat) (ac : Act) (w : World), FR 117 [] ac [(8, .slice A35551 n35552 c35553), (10, .slice A56323 n56324 c56325)] → SH r (own (kI .u8) 5 A35551 n35552 c35553 l35550 :: own (kI .i64) 2 A56323 n56324 c56325 l56322 :: L) w → Kx46876 ac w := by
    intro l56322 ht A56323 n56324 c56325 ac w hA hS
    subst ht
    replace hF : r03_Texts_x1_6 l35550 l56322 = some y := hF
    unfold r03_Texts_x1_6 at hF
    exact hb3 l56322 hF A56323 n56324 c56325 ac w (hA.sub _ rfl) hS
   replace hS := SH.nil_own (d := (kI .i64)) (e := 2) hS
   replace hS := hS.pk 2
   replace hS := hS.pk 2
   refine wp_loop_fn hl56325 (fun s ac w => ∃ (A54437 : Option Addr) (n54438 : Nat) (c54439 : Nat), FR 117 [] ac [(0, .slice A0 n0 c0), (3, .slice A35298 n35299 c35300), (8, .slice A35551 n35552 c35553), (10, .slice A54437 n54438 c54439), (11, .int .i64 s.2)] ∧ SH r (own kS 9 A35298 n35299 c35300 l35297 :: own (kI .u8) 5 A35551 n35552 c35553 l35550 :: own (kI .i64) 2 A54437 n54438 c54439 s.1 :: L) w) ⟨none, 0, 0, hA.sub _ rfl, hS⟩ ?_
   intro N56325 s56325 o56325 hF N56325_ T56325_ ac w hLab
   obtain ⟨l54436, x54440⟩ := s56325
   replace hF : r03_Texts_l1 a0 l35297 l54436 x54440 = some o56325 := hF
   unfold r03_Texts_l1 at hF
   try dsimp only at hLab
   obtain ⟨A54437, n54438, c54439, hA, hS⟩ := hLab
   refine wp_seq_k fun K56327 hK56327 => ?_
   refine ws fun K56328 hK56328 => ?_
   refine x_m hA rfl fun ac hA => ?_
   refine x_m hA rfl fun ac hA => ?_
   refine x_len Tryd.underlying91 (hS.rdl 3 ha0 rfl).2.1 hA (fun ac hA => ?_) rfl rfl rfl rfl rfl
   refine x_v hA (r_ltI rfl (hA.ev rfl) (hA.ev rfl)) rfl fun ac hA => ?_
   refine wn (hK56328 _ _ ?_)
   refine c_if hA rfl (fun hb56329 => ?_) fun hb56329 => ?_
   ·replace hF := ift hb56329 hF
    refine wp_skip ?_
    refine hK56327 _ _ ?_
    refine wp_seq_k fun K56330 hK56330 => ?_
    refine wp_block_k fun Kx57266 hKx57266 => ?_
    refine ws fun K57734 hK57734 => ?_
    refine x_m hA rfl fun ac hA => ?_
    refine wn (hK57734 _ _ ?_)
    refine wp_block_k fun Kx57735 hKx57735 => ?_
    have hb4 : ∀ (l57966 : (List Int)), r03_Texts_b4 x54440 l57966 = some o56325 → ∀ (A57967 : Option Addr) (n57968 : Nat) (c57969 : Nat) (ac : Act) (w : World), FR 117 [] ac [(0, .slice A0 n0 c0), (3, .slice A35298 n35299 c35300), (8, .slice A35551 n35552 c35553), (10, .slice A57967 n57968 c57969), (11, .int .i64 x54440)] → SH r (own kS 9 A35298 n35299 c35300 l35297 :: own (kI .u8) 5 A35551 n35552 c35553 l35550 :: own (kI .i64) 2 A57967 n57968 c57969 l57966 :: L) w → Kx57735 ac w := by
     intro l57966 hF A57967 n57968 c57969 ac w hA hS
     unfold r03_Texts_b4 at hF
     refine hKx57735 _ _ ?_
     refine hKx57266 _ _ ?_
     refine hK56330 _ _ ?_
     refine wp_reg ?_
     refine x_m hA rfl fun ac hA => ?_
     obtain ⟨x57970, h57971, hF⟩ := ltt_ hF
     refine x_v (v := .int .i64 x57970) hA (rv_i h57971 (r_add rfl (hA.ev rfl) (hA.ev rfl))) rfl fun ac hA => ?_
     refine x_m hA rfl fun ac hA => ?_
     refine wpList_nil ?_
     cases hF
     exact ⟨_, N56325_ _ rfl, A57967, n57968, c57969, hA.sub _ rfl, hS⟩
    obtain ⟨t58130, hl58130, hF⟩ := bnd hF
    have hx58130_8 : ∀ (l58127 : (List Int)), (l58127) = t58130 → ∀ (A58128 : Option Addr) (n58129 : Nat) (c58130 : Nat) (ac : Act) (w : World), FR 117 [] ac [(0, .slice A0 n0 c0), (3, .slice A35298 n35299 c35300), (8, .slice A35551 n35552 c35553), (10, .slice A58128 n58129 c58130), (11, .int .i64 x54440)] → SH r (own kS 9 A35298 n35299 c35300 l35297 :: own (kI .u8) 5 A35551 n35552 c35553 l35550 :: own (kI .i64) 2 A58128 n58129 c58130 l58127 :: L) w → Kx57735 ac w := by
     intro l58127 ht A58128 n58129 c58130 ac w hA hS
     subst ht
     replace hF : r03_Texts_x2_8 x54440 l58127 = some o56325 := hF
     unfold r03_Texts_x2_8 at hF
     exact hb4 l58127 hF A58128 n58129 c58130 ac w (hA.sub _ rfl) hS
    refine wp_loop_fn hl58130 (fun s ac w => ∃ (A58048 : Option Addr) (n58049 : Nat) (c58050 : Nat), FR 117 [] ac [(0, .slice A0 n0 c0), (3, .slice A35298 n35299 c35300), (8, .slice A35551 n35552 c35553), (10, .slice A58048 n58049 c58050), (11, .int .i64 x54440), (12, .int .i64 s.2)] ∧ SH r (own kS 9 A35298 n35299 c35300 l35297 :: own (kI .u8) 5 A35551 n35552 c35553 l35550 :: own (kI .i64) 2 A58048 n58049 c58050 s.1 :: L) w) ⟨A54437, n54438, c54439, hA.sub _ rfl, hS⟩ ?_
    intro N58130 s58130 o58130 hF N58130_ T58130_ ac w hLab
    obtain ⟨l58047, x58051⟩ := s58130
    replace hF : r03_Texts_l2 a0 l35297 x54440 l58047 x58051 = some o58130 := hF
    unfold r03_Texts_l2 at hF
    try dsimp only at hLab
    obtain ⟨A58048, n58049, c58050, hA, hS⟩ := hLab
    refine wp_seq_k fun K58132 hK58132 => ?_
    refine ws fun K58133 hK58133 => ?_
    refine x_m hA rfl fun ac hA => ?_
    refine x_m hA rfl fun ac hA => ?_
    refine x_len Tryd.underlying91 (hS.rd 0 rfl).2.1 hA (fun ac hA => ?_) rfl rfl rfl rfl rfl
    refine x_v hA (r_ltI rfl (hA.ev rfl) (hA.ev rfl)) rfl fun ac hA => ?_
    refine wn (hK58133 _ _ ?_)
    refine c_if hA rfl (fun hb58134 => ?_) fun hb58134 => ?_
    ·replace hF := ift hb58134 hF
     refine wp_skip ?_
     refine hK58132 _ _ ?_
     refine wp_seq_k fun K58135 hK58135 => ?_
     refine wp_block_k fun Kx58168 hKx58168 => ?_
     have hb5 : ∀ (l58182 : (List Int)), r03_Texts_b5 x58051 l58182 = some o58130 → ∀ (A58183 : Option Addr) (n58184 : Nat) (c58185 : Nat) (ac : Act) (w : World), FR 117 [] ac [(0, .slice A0 n0 c0), (3, .slice A35298 n35299 c35300), (8, .slice A35551 n35552 c35553), (10, .slice A58183 n58184 c58185), (11, .int .i64 x54440), (12, .int .i64 x58051)] → SH r (own kS 9 A35298 n35299 c35300 l35297 :: own (kI .u8) 5 A35551 n35552 c35553 l35550 :: own (kI .i64) 2 A58183 n58184 c58185 l58182 :: L) w → Kx58168 ac w := by
      intro l58182 hF A58183 n58184 c58185 ac w hA hS
      unfold r03_Texts_b5 at hF
      refine hKx58168 _ _ ?_
      refine hK58135 _ _ ?_
      refine wp_reg ?_
      refine x_m hA rfl fun ac hA => ?_
      obtain ⟨x58186, h58187, hF⟩ := ltt_ hF
      refine x_v (v := .int .i64 x58186) hA (rv_i h58187 (r_add rfl (hA.ev rfl) (hA.ev rfl))) rfl fun ac hA => ?_
      refine x_m hA rfl fun ac hA => ?_
      refine wpList_nil ?_
      cases hF
      exact ⟨_, N58130_ _ rfl, A58183, n58184, c58185, hA.sub _ rfl, hS⟩
     refine wp_seq_k fun K58188 hK58188 => ?_
     refine wp_draw [0, 0, 3, 7, 0, 0, 48, 112, 255] [] rfl hA hS (by kernel_rfl) (by kernel_rfl) (by kernel_rfl) (by kernel_rfl) fun w hS => ?_
     obtain ⟨x58189, h58190, hF⟩ := bnd hF
     obtain ⟨cs, hV, hc58191⟩ := el (hS.rd 0 rfl) h58190
     obtain rfl := hV
     obtain ⟨x58192, h58193, hF⟩ := bnd hF
     obtain ⟨cs, hV, hc58194⟩ := el (hS.rdl 3 ha0 rfl) h58193
     obtain rfl := hV
     refine ⟨[(0, .slice A35298 n35299 c35300), (1, .int .i64 x58051), (2, .pointer (some (ea A35298 (x58051.toNat * 1)))), (3, str x58189), (4, .slice A0 n0 c0), (5, .int .i64 x54440), (6, .pointer (some (ea A0 (x54440.toNat * 1)))), (7, str x58192), (8, .bool (x58189 == x58192))], ?_⟩
     refine dEnd [0, 1, 2, 3, 4, 5, 6, 7, 8] (by kernel_rfl) ⟨pu rfl rfl [(3, .slice A35298 n35299 c35300)] (fun ac hA => y_move hA rfl rfl) rfl rfl, pu rfl rfl [(12, .int .i64 x58051)] (fun ac hA => y_move hA rfl rfl) rfl rfl, pu rfl rfl [(100, .slice A35298 n35299 c35300), (101, .int .i64 x58051)] (fun ac hA => y_ia Tryd.underlying91 sz9 (hS.rd 0 rfl) h58190 hA rfl rfl rfl) rfl rfl, pu rfl rfl [(102, .pointer (some (ea A35298 (x58051.toNat * 1))))] (fun ac hA => y_ld Tryd.underlying9 (hc58191 0 _ rfl) hA rfl rfl rfl) rfl rfl, pu rfl rfl [(0, .slice A0 n0 c0)] (fun ac hA => y_move hA rfl rfl) rfl rfl, pu rfl rfl [(11, .int .i64 x54440)] (fun ac hA => y_move hA rfl rfl) rfl rfl, pu rfl rfl [(104, .slice A0 n0 c0), (105, .int .i64 x54440)] (fun ac hA => y_ia Tryd.underlying91 sz9 (hS.rdl 3 ha0 rfl) h58193 hA rfl rfl rfl) rfl rfl, pu rfl rfl [(106, .pointer (some (ea A0 (x54440.toNat * 1))))] (fun ac hA => y_ld Tryd.underlying9 (hc58194 0 _ rfl) hA rfl rfl rfl) rfl rfl, pu rfl rfl [(103, str x58189), (107, str x58192)] (fun ac hA => r_eqS rfl (hA.ev rfl) (hA.ev rfl)) rfl rfl, trivial⟩ ⟨by kernel_rfl, by kernel_rfl⟩ [(0, .slice A0 n0 c0), (3, .slice A35298 n35299 c35300), (8, .slice A35551 n35552 c35553), (10, .slice A58048 n58049 c58050), (11, .int .i64 x54440), (12, .int .i64 x58051), (108, .bool (x58189 == x58192))] rfl (fun ac hA => ?_)
     refine hK58188 _ _ ?_
     refine c_if hA rfl (fun hb58195 => ?_) fun hb58195 => ?_
     ·replace hF := ift hb58195 hF
      refine wp_reg ?_
      refine x_m hA rfl fun ac hA => ?_
      refine x_m hA rfl fun ac hA => ?_
      refine x_bsl (d := (kI .i64)) (e := 2) (ps := #[(0, .int .i64 x58051)]) (cells := [.int .i64 x58051]) (xs := [x58051]) (fun w => by kernel_rfl) rfl ⟨[.int .i64 x58051], _, rfl, rfl, rfl⟩ hA hS (fun g58196 ac w hS hA => ?_) rfl rfl rfl rfl rfl rfl
      obtain ⟨h58197, hF⟩ := chk_some hF
      have hr := hS.rd 0 rfl
      refine x_app 3 inf2 Tryd.underlying90 hA hS hr.1 hr.2.1 h58197 rfl (fun A58198 n58199 c58200 ac w hS hA => ?_) rfl rfl rfl rfl rfl rfl rfl rfl rfl
      refine x_m hA rfl fun ac hA => ?_
      refine wpList_nil ?_
      replace hS := hS.drop 1
      replace hS := hS.pk 2
      replace hS := hS.pk 2
      exact hb5 (l58047 ++ [x58051]) hF A58198 n58199 c58200 ac w (hA.sub _ rfl) hS
     replace hF := iff' hb58195 hF
     refine wp_skip ?_
     exact hb5 l58047 hF A58048 n58049 c58050 ac w (hA.sub _ rfl) hS
    replace hF := iff' hb58134 hF
    refine wp_exit ?_
    cases hF
    exact hx58130_8 l58047 (T58130_ _ rfl) A58048 n58049 c58050 ac w (hA.sub _ rfl) hS
   replace hF := iff' hb56329 hF
   refine wp_exit ?_
   replace hS := hS.drop 0
   cases hF
   exact hx56325_6 l54436 (T56325_ _ rfl) A54437 n54438 c54439 ac w (hA.sub _ rfl) hS
  obtain ⟨t58257, hl58257, hF⟩ := bnd hF
  have hx58257_4 : ∀ (l58254 : (List Int)), (l58254) = t58257 → ∀ (A58255 : Option Addr) (n58256 : Nat) (c58257 : Nat) (ac : Act) (w : World), FR 117 [] ac [(0, .slice A0 n0 c0), (3, .slice A35298 n35299 c35300), (8, .slice A58255 n58256 c58257)] → SH r (own kS 9 A35298 n35299 c35300 l35297 :: own (kI .u8) 5 A58255 n58256 c58257 l58254 :: L) w → Kx35472 ac w := by
   intro l58254 ht A58255 n58256 c58257 ac w hA hS
   subst ht
   replace hF : r03_Texts_x3_4 a0 l35297 l58254 = some y := hF
   unfold r03_Texts_x3_4 at hF
   exact hb2 l58254 hF A58255 n58256 c58257 ac w (hA.sub _ rfl) hS
  replace hS := hS.pk 1
  refine wp_loop_fn hl58257 (fun s ac w => ∃ (A58226 : Option Addr) (n58227 : Nat) (c58228 : Nat), FR 117 [] ac [(0, .slice A0 n0 c0), (3, .slice A35298 n35299 c35300), (8, .slice A58226 n58227 c58228), (9, .int .i64 s.2)] ∧ SH r (own kS 9 A35298 n35299 c35300 l35297 :: own (kI .u8) 5 A58226 n58227 c58228 s.1 :: L) w) ⟨B35306, m35307, d35308, hA.sub _ rfl, hS⟩ ?_
  intro N58257 s58257 o58257 hF N58257_ T58257_ ac w hLab
  obtain ⟨l58225, x58229⟩ := s58257
  replace hF : r03_Texts_l3 l35297 l58225 x58229 = some o58257 := hF
  unfold r03_Texts_l3 at hF
  try dsimp only at hLab
  obtain ⟨A58226, n58227, c58228, hA, hS⟩ := hLab
  refine wp_seq_k fun K58259 hK58259 => ?_
  refine ws fun K58260 hK58260 => ?_
  refine x_m hA rfl fun ac hA => ?_
  refine x_m hA rfl fun ac hA => ?_
  refine x_len Tryd.underlying91 (hS.rd 0 rfl).2.1 hA (fun ac hA => ?_) rfl rfl rfl rfl rfl
  refine x_v hA (r_ltI rfl (hA.ev rfl) (hA.ev rfl)) rfl fun ac hA => ?_
  refine wn (hK58260 _ _ ?_)
  refine c_if hA rfl (fun hb58261 => ?_) fun hb58261 => ?_
  ·replace hF := ift hb58261 hF
   refine wp_skip ?_
   refine hK58259 _ _ ?_
   refine wp_seq_k fun K58262 hK58262 => ?_
   refine wp_block_k fun Kx58263 hKx58263 => ?_
   refine wp_reg ?_
   refine x_m hA rfl fun ac hA => ?_
   refine x_m hA rfl fun ac hA => ?_
   refine x_m hA rfl fun ac hA => ?_
   obtain ⟨x58264, h58265, hF⟩ := bnd hF
   refine x_ia Tryd.underlying91 sz9 (hS.rd 0 rfl) h58265 hA (fun ac hA => ?_) rfl rfl rfl rfl rfl rfl
   obtain ⟨cs, hV, hc58266⟩ := el (hS.rd 0 rfl) h58265
   obtain rfl := hV
   refine x_ld Tryd.underlying9 (hc58266 0 _ rfl) hA (fun ac hA => ?_) rfl rfl rfl rfl rfl rfl
   obtain ⟨y58267, h58268, hF⟩ := bnd hF
   refine x_call en34 hA (F_r03_Text (L := own kS 9 A35298 n35299 c35300 l35297 :: own (kI .u8) 5 A58226 n58227 c58228 l58225 :: L) x58264 h58268 hS) (fun v ac w hR hA => ?_) rfl rfl rfl rfl rfl
   obtain ⟨B58269, m58270, d58271, rfl, hS⟩ := hR
   obtain ⟨h58272, hF⟩ := chk_some hF
   have hr := hS.rd 0 rfl
   refine x_app 2 inf5 Tryd.underlying24 hA hS hr.1 hr.2.1 h58272 rfl (fun A58273 n58274 c58275 ac w hS hA => ?_) rfl rfl rfl rfl rfl rfl rfl rfl rfl
   refine x_m hA rfl fun ac hA => ?_
   refine wpList_nil ?_
   refine hKx58263 _ _ ?_
   refine hK58262 _ _ ?_
   refine wp_reg ?_
   refine x_m hA rfl fun ac hA => ?_
   obtain ⟨x58276, h58277, hF⟩ := ltt_ hF
   refine x_v (v := .int .i64 x58276) hA (rv_i h58277 (r_add rfl (hA.ev rfl) (hA.ev rfl))) rfl fun ac hA => ?_
   refine x_m hA rfl fun ac hA => ?_
   refine wpList_nil ?_
   replace hS := hS.drop 1
   replace hS := hS.pk 1
   cases hF
   exact ⟨_, N58257_ _ rfl, A58273, n58274, c58275, hA.sub _ rfl, hS⟩
  replace hF := iff' hb58261 hF
  refine wp_exit ?_
  cases hF
  exact hx58257_4 l58225 (T58257_ _ rfl) A58226 n58227 c58228 ac w (hA.sub _ rfl) hS
 obtain ⟨t66104, hl66104, hF⟩ := bnd hF
 have hx66104_0 : ∀ (l66101 : (List (List UInt8))), (l66101) = t66104 → ∀ (A66102 : Option Addr) (n66103 : Nat) (c66104 : Nat) (ac : Act) (w : World), FR 117 [] ac [(0, .slice A0 n0 c0), (3, .slice A66102 n66103 c66104)] → SH r (own kS 9 A66102 n66103 c66104 l66101 :: L) w → Kx23568 ac w := by
  intro l66101 ht A66102 n66103 c66104 ac w hA hS
  subst ht
  replace hF : r03_Texts_x4_0 a0 l66101 = some y := hF
  unfold r03_Texts_x4_0 at hF
  exact hb1 l66101 hF A66102 n66103 c66104 ac w (hA.sub _ rfl) hS
 replace hS := SH.nil_own (d := kS) (e := 9) hS
 refine wp_loop_fn hl66104 (fun s ac w => ∃ (A62192 : Option Addr) (n62193 : Nat) (c62194 : Nat), FR 117 [] ac [(0, .slice A0 n0 c0), (3, .slice A62192 n62193 c62194), (4, .int .i64 s.2)] ∧ SH r (own kS 9 A62192 n62193 c62194 s.1 :: L) w) ⟨none, 0, 0, hA.sub _ rfl, hS⟩ ?_
 intro N66104 s66104 o66104 hF N66104_ T66104_ ac w hLab
 obtain ⟨l62191, x62195⟩ := s66104
 replace hF : r03_Texts_l4 a0 l62191 x62195 = some o66104 := hF
 unfold r03_Texts_l4 at hF
 try dsimp only at hLab
 obtain ⟨A62192, n62193, c62194, hA, hS⟩ := hLab
 refine wp_seq_k fun K66106 hK66106 => ?_
 refine ws fun K66107 hK66107 => ?_
 refine x_m hA rfl fun ac hA => ?_
 refine x_m hA rfl fun ac hA => ?_
 refine x_len Tryd.underlying91 (hS.rdl 1 ha0 rfl).2.1 hA (fun ac hA => ?_) rfl rfl rfl rfl rfl
 refine x_v hA (r_ltI rfl (hA.ev rfl) (hA.ev rfl)) rfl fun ac hA => ?_
 refine wn (hK66107 _ _ ?_)
 refine c_if hA rfl (fun hb66108 => ?_) fun hb66108 => ?_
 ·replace hF := ift hb66108 hF
  refine wp_skip ?_
  refine hK66106 _ _ ?_
  refine wp_seq_k fun K66109 hK66109 => ?_
  refine wp_block_k fun Kx66110 hKx66110 => ?_
  refine ws fun K66111 hK66111 => ?_
  refine x_m hA rfl fun ac hA => ?_
  refine wn (hK66111 _ _ ?_)
  refine ws fun K66112 hK66112 => ?_
  refine x_m hA rfl fun ac hA => ?_
  refine wn (hK66112 _ _ ?_)
  refine wp_seq_k fun K66113 hK66113 => ?_
  refine ws fun K68046 hK68046 => ?_
  refine x_m hA rfl fun ac hA => ?_
  refine wn (hK68046 _ _ ?_)
  refine wp_block_k fun Kx68047 hKx68047 => ?_
  have hb6 : ∀ (l69010 : (List (List UInt8))) (b69014 : Bool), r03_Texts_b6 a0 x62195 l69010 b69014 = some o66104 → ∀ (A69011 : Option Addr) (n69012 : Nat) (c69013 : Nat) (ac : Act) (w : World), FR 117 [] ac [(0, .slice A0 n0 c0), (4, .int .i64 x62195), (5, .slice A69011 n69012 c69013), (6, .bool b69014)] → SH r (own kS 9 A69011 n69012 c69013 l69010 :: L) w → Kx68047 ac w := by
   intro l69010 b69014 hF A69011 n69012 c69013 ac w hA hS
   unfold r03_Texts_b6 at hF
   refine hKx68047 _ _ ?_
   refine hK66113 _ _ ?_
   refine wp_seq_k fun K69015 hK69015 => ?_
   have hj1 : ∀ (l69026 : (List (List UInt8))), r03_Texts_j1 x62195 l69026 = some o66104 → ∀ (A69027 : Option Addr) (n69028 : Nat) (c69029 : Nat) (ac : Act) (w : World), FR 117 [] ac [(0, .slice A0 n0 c0), (4, .int .i64 x62195), (5, .slice A69027 n69028 c69029)] → SH r (own kS 9 A69027 n69028 c69029 l69026 :: L) w → K69015 ac w := by
    intro l69026 hF A69027 n69028 c69029 ac w hA hS
    unfold r03_Texts_j1 at hF
    refine hK69015 _ _ ?_
    refine wp_reg ?_
    refine x_m hA rfl fun ac hA => ?_
    refine x_m hA rfl fun ac hA => ?_
    refine wpList_nil ?_
    refine hKx66110 _ _ ?_
    refine hK66109 _ _ ?_
    refine wp_reg ?_
    refine x_m hA rfl fun ac hA => ?_
    obtain ⟨x69030, h69031, hF⟩ := ltt_ hF
    refine x_v (v := .int .i64 x69030) hA (rv_i h69031 (r_add rfl (hA.ev rfl) (hA.ev rfl))) rfl fun ac hA => ?_
    refine x_m hA rfl fun ac hA => ?_
    refine wpList_nil ?_
    cases hF
    exact ⟨_, N66104_ _ rfl, A69027, n69028, c69029, hA.sub _ rfl, hS⟩
   refine ws fun K69032 hK69032 => ?_
   refine x_m hA rfl fun ac hA => ?_
   refine x_v hA (r_not rfl (hA.ev rfl)) rfl fun ac hA => ?_
   refine wn (hK69032 _ _ ?_)
   refine c_if hA rfl (fun hb69033 => ?_) fun hb69033 => ?_
   ·replace hF := ift hb69033 hF
    refine wp_reg ?_
    refine x_m hA rfl fun ac hA => ?_
    refine x_m hA rfl fun ac hA => ?_
    refine x_m hA rfl fun ac hA => ?_
    obtain ⟨x69034, h69035, hF⟩ := bnd hF
    refine x_ia Tryd.underlying91 sz9 (hS.rdl 1 ha0 rfl) h69035 hA (fun ac hA => ?_) rfl rfl rfl rfl rfl rfl
    obtain ⟨cs, hV, hc69036⟩ := el (hS.rdl 1 ha0 rfl) h69035
    obtain rfl := hV
    refine x_ld Tryd.underlying9 (hc69036 0 _ rfl) hA (fun ac hA => ?_) rfl rfl rfl rfl rfl rfl
    refine x_bsl (d := kS) (e := 9) (ps := #[(0, str x69034)]) (cells := [str x69034]) (xs := [x69034]) (fun w => by kernel_rfl) rfl ⟨[str x69034], _, rfl, rfl, rfl⟩ hA hS (fun g69037 ac w hS hA => ?_) rfl rfl rfl rfl rfl rfl
    obtain ⟨h69038, hF⟩ := chk_some hF
    have hr := hS.rd 0 rfl
    refine x_app 1 inf9 Tryd.underlying91 hA hS hr.1 hr.2.1 h69038 rfl (fun A69039 n69040 c69041 ac w hS hA => ?_) rfl rfl rfl rfl rfl rfl rfl rfl rfl
    refine x_m hA rfl fun ac hA => ?_
    refine wpList_nil ?_
    replace hS := hS.drop 1
    exact hj1 (l69010 ++ [x69034]) hF A69039 n69040 c69041 ac w (hA.sub _ rfl) hS
   replace hF := iff' hb69033 hF
   refine wp_skip ?_
   exact hj1 l69010 hF A69011 n69012 c69013 ac w (hA.sub _ rfl) hS
  obtain ⟨t69682, hl69682, hF⟩ := bnd hF
  have hx69682_2 : ∀ (l69678 : (List (List UInt8))) (b69682 : Bool), (l69678, b69682) = t69682 → ∀ (A69679 : Option Addr) (n69680 : Nat) (c69681 : Nat) (ac : Act) (w : World), FR 117 [] ac [(0, .slice A0 n0 c0), (4, .int .i64 x62195), (5, .slice A69679 n69680 c69681), (6, .bool b69682)] → SH r (own kS 9 A69679 n69680 c69681 l69678 :: L) w → Kx68047 ac w := by
   intro l69678 b69682 ht A69679 n69680 c69681 ac w hA hS
   subst ht
   replace hF : r03_Texts_x5_2 a0 x62195 l69678 b69682 = some o66104 := hF
   unfold r03_Texts_x5_2 at hF
   exact hb6 l69678 b69682 hF A69679 n69680 c69681 ac w (hA.sub _ rfl) hS
  replace hS := SH.nil_own (d := kS) (e := 9) hS
  replace hS := hS.pk 1
  refine wp_loop_fn hl69682 (fun s ac w => ∃ (A69347 : Option Addr) (n69348 : Nat) (c69349 : Nat), FR 117 [] ac [(0, .slice A0 n0 c0), (3, .slice A62192 n62193 c62194), (4, .int .i64 x62195), (5, .slice A69347 n69348 c69349), (6, .bool s.2.1), (7, .int .i64 s.2.2)] ∧ SH r (own kS 9 A62192 n62193 c62194 l62191 :: own kS 9 A69347 n69348 c69349 s.1 :: L) w) ⟨none, 0, 0, hA.sub _ rfl, hS⟩ ?_
  intro N69682 s69682 o69682 hF N69682_ T69682_ ac w hLab
  obtain ⟨l69346, b69350, x69351⟩ := s69682
  replace hF : r03_Texts_l5 a0 l62191 x62195 l69346 b69350 x69351 = some o69682 := hF
  unfold r03_Texts_l5 at hF
  try dsimp only at hLab
  obtain ⟨A69347, n69348, c69349, hA, hS⟩ := hLab
  refine wp_seq_k fun K69684 hK69684 => ?_
  refine ws fun K69685 hK69685 => ?_
  refine x_m hA rfl fun ac hA => ?_
  refine x_m hA rfl fun ac hA => ?_
  refine x_len Tryd.underlying91 (hS.rd 0 rfl).2.1 hA (fun ac hA => ?_) rfl rfl rfl rfl rfl
  refine x_v hA (r_ltI rfl (hA.ev rfl) (hA.ev rfl)) rfl fun ac hA => ?_
  refine wn (hK69685 _ _ ?_)
  refine c_if hA rfl (fun hb69686 => ?_) fun hb69686 => ?_
  ·replace hF := ift hb69686 hF
   refine wp_skip ?_
   refine hK69684 _ _ ?_
   refine wp_seq_k fun K69687 hK69687 => ?_
   refine wp_block_k fun Kx69845 hKx69845 => ?_
   have hb7 : ∀ (l69921 : (List (List UInt8))) (b69925 : Bool), r03_Texts_b7 x69351 l69921 b69925 = some o69682 → ∀ (A69922 : Option Addr) (n69923 : Nat) (c69924 : Nat) (ac : Act) (w : World), FR 117 [] ac [(0, .slice A0 n0 c0), (3, .slice A62192 n62193 c62194), (4, .int .i64 x62195), (5, .slice A69922 n69923 c69924), (6, .bool b69925), (7, .int .i64 x69351)] → SH r (own kS 9 A62192 n62193 c62194 l62191 :: own kS 9 A69922 n69923 c69924 l69921 :: L) w → Kx69845 ac w := by
    intro l69921 b69925 hF A69922 n69923 c69924 ac w hA hS
    unfold r03_Texts_b7 at hF
    refine hKx69845 _ _ ?_
    refine hK69687 _ _ ?_
    refine wp_reg ?_
    refine x_m hA rfl fun ac hA => ?_
    obtain ⟨x69926, h69927, hF⟩ := ltt_ hF
    refine x_v (v := .int .i64 x69926) hA (rv_i h69927 (r_add rfl (hA.ev rfl) (hA.ev rfl))) rfl fun ac hA => ?_
    refine x_m hA rfl fun ac hA => ?_
    refine wpList_nil ?_
    cases hF
    exact ⟨_, N69682_ _ rfl, A69922, n69923, c69924, hA.sub _ rfl, hS⟩
   refine wp_seq_k fun K69928 hK69928 => ?_
   have hj2 : ∀ (l69956 : (List (List UInt8))) (b69960 : Bool), r03_Texts_j2 a0 l62191 x62195 x69351 l69956 b69960 = some o69682 → ∀ (A69957 : Option Addr) (n69958 : Nat) (c69959 : Nat) (ac : Act) (w : World), FR 117 [] ac [(0, .slice A0 n0 c0), (3, .slice A62192 n62193 c62194), (4, .int .i64 x62195), (5, .slice A69957 n69958 c69959), (6, .bool b69960), (7, .int .i64 x69351)] → SH r (own kS 9 A62192 n62193 c62194 l62191 :: own kS 9 A69957 n69958 c69959 l69956 :: L) w → K69928 ac w := by
    intro l69956 b69960 hF A69957 n69958 c69959 ac w hA hS
    unfold r03_Texts_j2 at hF
    refine hK69928 _ _ ?_
    refine wp_seq_k fun K69961 hK69961 => ?_
    refine wp_draw [0, 0, 3, 7, 0, 0, 48, 112, 255] [] rfl hA hS (by kernel_rfl) (by kernel_rfl) (by kernel_rfl) (by kernel_rfl) fun w hS => ?_
    obtain ⟨x69962, h69963, hF⟩ := bnd hF
    obtain ⟨cs, hV, hc69964⟩ := el (hS.rd 0 rfl) h69963
    obtain rfl := hV
    obtain ⟨x69965, h69966, hF⟩ := bnd hF
    obtain ⟨cs, hV, hc69967⟩ := el (hS.rdl 2 ha0 rfl) h69966
    obtain rfl := hV
    refine ⟨[(0, .slice A62192 n62193 c62194), (1, .int .i64 x69351), (2, .pointer (some (ea A62192 (x69351.toNat * 1)))), (3, str x69962), (4, .slice A0 n0 c0), (5, .int .i64 x62195), (6, .pointer (some (ea A0 (x62195.toNat * 1)))), (7, str x69965), (8, .bool (!(x69962 == x69965)))], ?_⟩
    refine dEnd [0, 1, 2, 3, 4, 5, 6, 7, 8] (by kernel_rfl) ⟨pu rfl rfl [(3, .slice A62192 n62193 c62194)] (fun ac hA => y_move hA rfl rfl) rfl rfl, pu rfl rfl [(7, .int .i64 x69351)] (fun ac hA => y_move hA rfl rfl) rfl rfl, pu rfl rfl [(45, .slice A62192 n62193 c62194), (46, .int .i64 x69351)] (fun ac hA => y_ia Tryd.underlying91 sz9 (hS.rd 0 rfl) h69963 hA rfl rfl rfl) rfl rfl, pu rfl rfl [(47, .pointer (some (ea A62192 (x69351.toNat * 1))))] (fun ac hA => y_ld Tryd.underlying9 (hc69964 0 _ rfl) hA rfl rfl rfl) rfl rfl, pu rfl rfl [(0, .slice A0 n0 c0)] (fun ac hA => y_move hA rfl rfl) rfl rfl, pu rfl rfl [(4, .int .i64 x62195)] (fun ac hA => y_move hA rfl rfl) rfl rfl, pu rfl rfl [(49, .slice A0 n0 c0), (50, .int .i64 x62195)] (fun ac hA => y_ia Tryd.underlying91 sz9 (hS.rdl 2 ha0 rfl) h69966 hA rfl rfl rfl) rfl rfl, pu rfl rfl [(51, .pointer (some (ea A0 (x62195.toNat * 1))))] (fun ac hA => y_ld Tryd.underlying9 (hc69967 0 _ rfl) hA rfl rfl rfl) rfl rfl, pu rfl rfl [(48, str x69962), (52, str x69965)] (fun ac hA => r_neS rfl (hA.ev rfl) (hA.ev rfl)) rfl rfl, trivial⟩ ⟨by kernel_rfl, by kernel_rfl⟩ [(0, .slice A0 n0 c0), (3, .slice A62192 n62193 c62194), (4, .int .i64 x62195), (5, .slice A69957 n69958 c69959), (6, .bool b69960), (7, .int .i64 x69351), (53, .bool (!(x69962 == x69965)))] rfl (fun ac hA => ?_)
    refine hK69961 _ _ ?_
    refine c_if hA rfl (fun hb69968 => ?_) fun hb69968 => ?_
    ·replace hF := ift hb69968 hF
     refine wp_reg ?_
     refine x_m hA rfl fun ac hA => ?_
     refine x_m hA rfl fun ac hA => ?_
     refine x_m hA rfl fun ac hA => ?_
     refine x_ia Tryd.underlying91 sz9 (hS.rd 0 rfl) h69963 hA (fun ac hA => ?_) rfl rfl rfl rfl rfl rfl
     obtain ⟨cs, hV, hc69969⟩ := el (hS.rd 0 rfl) h69963
     obtain rfl := hV
     refine x_ld Tryd.underlying9 (hc69969 0 _ rfl) hA (fun ac hA => ?_) rfl rfl rfl rfl rfl rfl
     refine x_bsl (d := kS) (e := 9) (ps := #[(0, str x69962)]) (cells := [str x69962]) (xs := [x69962]) (fun w => by kernel_rfl) rfl ⟨[str x69962], _, rfl, rfl, rfl⟩ hA hS (fun g69970 ac w hS hA => ?_) rfl rfl rfl rfl rfl rfl
     obtain ⟨h69971, hF⟩ := chk_some hF
     have hr := hS.rd 0 rfl
     refine x_app 2 inf9 Tryd.underlying91 hA hS hr.1 hr.2.1 h69971 rfl (fun A69972 n69973 c69974 ac w hS hA => ?_) rfl rfl rfl rfl rfl rfl rfl rfl rfl
     refine x_m hA rfl fun ac hA => ?_
     refine wpList_nil ?_
     replace hS := hS.drop 1
     replace hS := hS.pk 1
     exact hb7 (l69956 ++ [x69962]) b69960 hF A69972 n69973 c69974 ac w (hA.sub _ rfl) hS
    replace hF := iff' hb69968 hF
    refine wp_skip ?_
    exact hb7 l69956 b69960 hF A69957 n69958 c69959 ac w (hA.sub _ rfl) hS
   refine wp_seq_k fun K69975 hK69975 => ?_
   have hj3 : ∀ (b69983 : Bool), r03_Texts_j3 a0 l62191 x62195 l69346 b69350 x69351 b69983 = some o69682 → ∀ (ac : Act) (w : World), FR 117 [] ac [(0, .slice A0 n0 c0), (3, .slice A62192 n62193 c62194), (4, .int .i64 x62195), (5, .slice A69347 n69348 c69349), (6, .bool b69350), (7, .int .i64 x69351), (37, .bool b69983)] → SH r (own kS 9 A62192 n62193 c62194 l62191 :: own kS 9 A69347 n69348 c69349 l69346 :: L) w → K69975 ac w := by
    intro b69983 hF ac w hA hS
    unfold r03_Texts_j3 at hF
    refine hK69975 _ _ ?_
    refine c_if hA rfl (fun hb69984 => ?_) fun hb69984 => ?_
    ·replace hF := ift hb69984 hF
     refine ws fun K69985 hK69985 => ?_
     refine x_m hA rfl fun ac hA => ?_
     refine x_m hA rfl fun ac hA => ?_
     refine x_m hA rfl fun ac hA => ?_
     obtain ⟨x69986, h69987, hF⟩ := bnd hF
     refine x_ia Tryd.underlying91 sz9 (hS.rdl 2 ha0 rfl) h69987 hA (fun ac hA => ?_) rfl rfl rfl rfl rfl rfl
     obtain ⟨cs, hV, hc69988⟩ := el (hS.rdl 2 ha0 rfl) h69987
     obtain rfl := hV
     refine x_ld Tryd.underlying9 (hc69988 0 _ rfl) hA (fun ac hA => ?_) rfl rfl rfl rfl rfl rfl
     refine x_bsl (d := kS) (e := 9) (ps := #[(0, str x69986)]) (cells := [str x69986]) (xs := [x69986]) (fun w => by kernel_rfl) rfl ⟨[str x69986], _, rfl, rfl, rfl⟩ hA hS (fun g69989 ac w hS hA => ?_) rfl rfl rfl rfl rfl rfl
     obtain ⟨h69990, hF⟩ := chk_some hF
     have hr := hS.rd 0 rfl
     refine x_app 2 inf9 Tryd.underlying91 hA hS hr.1 hr.2.1 h69990 rfl (fun A69991 n69992 c69993 ac w hS hA => ?_) rfl rfl rfl rfl rfl rfl rfl rfl rfl
     refine x_m hA rfl fun ac hA => ?_
     refine wn (hK69985 _ _ ?_)
     refine wp_reg ?_
     refine x_m hA rfl fun ac hA => ?_
     refine wpList_nil ?_
     replace hS := hS.drop 1
     replace hS := hS.pk 1
     exact hj2 (l69346 ++ [x69986]) true hF A69991 n69992 c69993 ac w (hA.sub _ rfl) hS
    replace hF := iff' hb69984 hF
    refine wp_skip ?_
    exact hj2 l69346 b69350 hF A69347 n69348 c69349 ac w (hA.sub _ rfl) hS
   refine wp_draw [0, 1, 3, 7, 7, 31, 63, 7, 7, 391, 903, 2047, 4095] [] rfl hA hS (by kernel_rfl) (by kernel_rfl) (by kernel_rfl) (by kernel_rfl) fun w hS => ?_
   refine bcase (b := !b69350) (fun hb69994 => ?_) fun hb69994 => ?_
   ·replace hF := ift hb69994 hF
    obtain ⟨x69995, h69996, hF⟩ := bnd hF
    obtain ⟨cs, hV, hc69997⟩ := el (hS.rd 0 rfl) h69996
    obtain rfl := hV
    obtain ⟨x69998, h69999, hF⟩ := bnd hF
    obtain ⟨cs, hV, hc70000⟩ := el (hS.rdl 2 ha0 rfl) h69999
    obtain rfl := hV
    refine ⟨[(0, .bool b69350), (1, .bool (!b69350)), (2, .bool (!b69350)), (3, .slice A62192 n62193 c62194), (4, .int .i64 x69351), (5, .pointer (some (ea A62192 (x69351.toNat * 1)))), (6, str x69995), (7, .slice A0 n0 c0), (8, .int .i64 x62195), (9, .pointer (some (ea A0 (x62195.toNat * 1)))), (10, str x69998), (11, .bool (!Op.bytesLess x69995 x69998)), (12, .bool (!Op.bytesLess x69995 x69998))], ?_⟩
    refine dEnd [0, 1, 2, 3, 4, 5, 6, 7, 8, 9, 10, 11, 12] (by kernel_rfl) ⟨pu rfl rfl [(6, .bool b69350)] (fun ac hA => y_move hA rfl rfl) rfl rfl, pu rfl rfl [(25, .bool b69350)] (fun ac hA => r_not rfl (hA.ev rfl)) rfl rfl, pu rfl rfl [(26, .bool (!b69350))] (fun ac hA => y_move hA rfl rfl) rfl rfl, puOn rfl rfl rfl rfl [(3, .slice A62192 n62193 c62194), (27, .bool (!b69350))] rfl hb69994 (fun ac hA => y_move hA rfl rfl) rfl, puOn rfl rfl rfl rfl [(7, .int .i64 x69351), (27, .bool (!b69350))] rfl hb69994 (fun ac hA => y_move hA rfl rfl) rfl, puOn rfl rfl rfl rfl [(27, .bool (!b69350)), (28, .slice A62192 n62193 c62194), (29, .int .i64 x69351)] rfl hb69994 (fun ac hA => y_ia Tryd.underlying91 sz9 (hS.rd 0 rfl) h69996 hA rfl rfl rfl) rfl, puOn rfl rfl rfl rfl [(27, .bool (!b69350)), (30, .pointer (some (ea A62192 (x69351.toNat * 1))))] rfl hb69994 (fun ac hA => y_ld Tryd.underlying9 (hc69997 0 _ rfl) hA rfl rfl rfl) rfl, puOn rfl rfl rfl rfl [(0, .slice A0 n0 c0), (27, .bool (!b69350))] rfl hb69994 (fun ac hA => y_move hA rfl rfl) rfl, puOn rfl rfl rfl rfl [(4, .int .i64 x62195), (27, .bool (!b69350))] rfl hb69994 (fun ac hA => y_move hA rfl rfl) rfl, puOn rfl rfl rfl rfl [(27, .bool (!b69350)), (32, .slice A0 n0 c0), (33, .int .i64 x62195)] rfl hb69994 (fun ac hA => y_ia Tryd.underlying91 sz9 (hS.rdl 2 ha0 rfl) h69999 hA rfl rfl rfl) rfl, puOn rfl rfl rfl rfl [(27, .bool (!b69350)), (34, .pointer (some (ea A0 (x62195.toNat * 1))))] rfl hb69994 (fun ac hA => y_ld Tryd.underlying9 (hc70000 0 _ rfl) hA rfl rfl rfl) rfl, puOn rfl rfl rfl rfl [(27, .bool (!b69350)), (31, str x69995), (35, str x69998)] rfl hb69994 (fun ac hA => r_geS rfl (hA.ev rfl) (hA.ev rfl)) rfl, pu rfl rfl [(27, .bool (!b69350)), (36, .bool (!Op.bytesLess x69995 x69998))] (fun ac hA => y_pickt hb69994 hA rfl rfl rfl) rfl rfl, trivial⟩ ⟨by kernel_rfl, by kernel_rfl⟩ [(0, .slice A0 n0 c0), (3, .slice A62192 n62193 c62194), (4, .int .i64 x62195), (5, .slice A69347 n69348 c69349), (6, .bool b69350), (7, .int .i64 x69351), (28, .slice A62192 n62193 c62194), (29, .int .i64 x69351), (31, str x69995), (32, .slice A0 n0 c0), (33, .int .i64 x62195), (35, str x69998), (36, .bool (!Op.bytesLess x69995 x69998)), (37, .bool (!Op.bytesLess x69995 x69998))] rfl (fun ac hA => ?_)
    exact hj3 (!Op.bytesLess x69995 x69998) hF ac w (hA.sub _ rfl) hS
   replace hF := iff' hb69994 hF
   refine ⟨[(0, .bool b69350), (1, .bool (!b69350)), (2, .bool (!b69350)), (3, undef), (4, undef), (5, undef), (6, undef), (7, undef), (8, undef), (9, undef), (10, undef), (11, undef), (12, .bool false)], ?_⟩
   refine dEnd [0, 1, 2, 3, 4, 5, 6, 7, 8, 9, 10, 11, 12] (by kernel_rfl) ⟨pu rfl rfl [(6, .bool b69350)] (fun ac hA => y_move hA rfl rfl) rfl rfl, pu rfl rfl [(25, .bool b69350)] (fun ac hA => r_not rfl (hA.ev rfl)) rfl rfl, pu rfl rfl [(26, .bool (!b69350))] (fun ac hA => y_move hA rfl rfl) rfl rfl, puOff rfl rfl rfl rfl [(3, .slice A62192 n62193 c62194), (27, .bool (!b69350))] rfl hb69994 rfl, puOff rfl rfl rfl rfl [(7, .int .i64 x69351), (27, .bool (!b69350))] rfl hb69994 rfl, puOff rfl rfl rfl rfl [(27, .bool (!b69350)), (28, undef), (29, undef)] rfl hb69994 rfl, puOff rfl rfl rfl rfl [(27, .bool (!b69350)), (30, undef)] rfl hb69994 rfl, puOff rfl rfl rfl rfl [(0, .slice A0 n0 c0), (27, .bool (!b69350))] rfl hb69994 rfl, puOff rfl rfl rfl rfl [(4, .int .i64 x62195), (27, .bool (!b69350))] rfl hb69994 rfl, puOff rfl rfl rfl rfl [(27, .bool (!b69350)), (32, undef), (33, undef)] rfl hb69994 rfl, puOff rfl rfl rfl rfl [(27, .bool (!b69350)), (34, undef)] rfl hb69994 rfl, puOff rfl rfl rfl rfl [(27, .bool (!b69350)), (31, undef), (35, undef)] rfl hb69994 rfl, pu rfl rfl [(27, .bool (!b69350)), (36, undef)] (fun ac hA => y_pickf hb69994 hA rfl rfl rfl) rfl rfl, trivial⟩ ⟨by kernel_rfl, by kernel_rfl⟩ [(0, .slice A0 n0 c0), (3, .slice A62192 n62193 c62194), (4, .int .i64 x62195), (5, .slice A69347 n69348 c69349), (6, .bool b69350), (7, .int .i64 x69351), (37, .bool false)] rfl (fun ac hA => ?_)
   exact hj3 false hF ac w (hA.sub _ rfl) hS
  replace hF := iff' hb69686 hF
  refine wp_exit ?_
  replace hS := hS.drop 0
  cases hF
  exact hx69682_2 l69346 b69350 (T69682_ _ rfl) A69347 n69348 c69349 ac w (hA.sub _ rfl) hS
 replace hF := iff' hb66108 hF
 refine wp_exit ?_
 cases hF
 exact hx66104_0 l62191 (T66104_ _ rfl) A62192 n62193 c62194 ac w (hA.sub _ rfl) hS
theorem F_column_Texts {r : World} {L : List HP} {w : World} (a0 : (List (List UInt8))) (A0 : Option Addr) (n0 : Nat) (c0 : Nat) {y : ((List Int))} (hF : column_Texts a0 = some y) (ha0 : RdL L kS A0 n0 c0 a0) (hS : SH r (L) w) :
  Ret Tryd.prog 46 #[.slice A0 n0 c0] w fun v w' => ∃ (B0 : Option Addr) (m0 : Nat) (d0 : Nat), v = .slice B0 m0 d0 ∧ SH r (own (kI .u8) 5 B0 m0 d0 y :: L) w' := by
 refine enter Tryd.func46 rfl Tryd.ntmps46 [(0, .slice A0 n0 c0)] rfl (by simp) ?_
 intro ac hA Qf hQ hQn
 unfold column_Texts at hF
 refine ws fun K101 hK101 => ?_
 refine x_m hA rfl fun ac hA => ?_
 refine wn (hK101 _ _ ?_)
 refine ws fun K102 hK102 => ?_
 refine x_m hA rfl fun ac hA => ?_
 refine x_call en71 hA (F_slices_Values (L := L) (A := A0) (n := n0) (c := c0) hS) (fun v ac w hR hA => ?_) rfl rfl rfl rfl rfl
 obtain ⟨g103, rfl, hS⟩ := hR
 obtain ⟨y104, h105, hF⟩ := bnd hF
 refine x_call en70 hA (F_slices_Sorted (L := L) a0 h105 (RdL.sfx 0 rfl ha0) hS) (fun v ac w hR hA => ?_) rfl rfl rfl rfl rfl
 obtain ⟨A106, n107, c108, rfl, hS⟩ := hR
 obtain ⟨y109, h110, hF⟩ := bnd hF
 refine x_call en69 hA (F_slices_Compact (L := L) y104 h110 hS) (fun v ac w hR hA => ?_) rfl rfl rfl rfl rfl
 obtain ⟨A111, n112, c113, rfl, hS⟩ := hR
 refine x_m hA rfl fun ac hA => ?_
 refine wn (hK102 _ _ ?_)
 refine ws fun K114 hK114 => ?_
 refine x_m hA rfl fun ac hA => ?_
 refine x_len Tryd.underlying91 (hS.rd 0 rfl).2.1 hA (fun ac hA => ?_) rfl rfl rfl rfl rfl
 obtain ⟨x115, h116, hF⟩ := ltt_ hF
 refine x_v (v := .int .u64 x115) hA (rv_i h116 (r_convI Tryd.underlying3 Tryd.underlying31 rfl (hA.ev rfl))) rfl fun ac hA => ?_
 replace hS := SH.nil_own (d := (kI .u8)) (e := 5) hS
 obtain ⟨y117, h118, hF⟩ := bnd hF
 refine x_call en48 hA (F_column_Uint (L := own kS 9 A111 n112 c113 y109 :: L) [] x115 none 0 0 h118 hS) (fun v ac w hR hA => ?_) rfl rfl rfl rfl rfl
 obtain ⟨B119, m120, d121, rfl, hS⟩ := hR
 refine x_m hA rfl fun ac hA => ?_
 refine wn (hK114 _ _ ?_)
 refine wp_seq_k fun K122 hK122 => ?_
 refine ws fun K266 hK266 => ?_
 refine x_m hA rfl fun ac hA => ?_
 refine x_len Tryd.underlying91 (hS.rd 1 rfl).2.1 hA (fun ac hA => ?_) rfl rfl rfl rfl rfl
 refine x_m hA rfl fun ac hA => ?_
 refine wn (hK266 _ _ ?_)
 refine wp_block_k fun Kx267 hKx267 => ?_
 have hb1 : ∀ (l336 : (List Int)), column_Texts_b1 a0 y109 l336 = some y → ∀ (A337 : Option Addr) (n338 : Nat) (c339 : Nat) (ac : Act) (w : World), FR 51 [] ac [(0, .slice A0 n0 c0), (3, .slice A111 n112 c113), (4, .slice A337 n338 c339)] → SH r (own kS 9 A111 n112 c113 y109 :: own (kI .u8) 5 A337 n338 c339 l336 :: L) w → Kx267 ac w := by
  intro l336 hF A337 n338 c339 ac w hA hS
  unfold column_Texts_b1 at hF
  refine hKx267 _ _ ?_
  refine hK122 _ _ ?_
  refine ws fun K340 hK340 => ?_
  refine x_m hA rfl fun ac hA => ?_
  refine wn (hK340 _ _ ?_)
  refine wp_seq_k fun K341 hK341 => ?_
  refine ws fun K519 hK519 => ?_
  refine x_m hA rfl fun ac hA => ?_
  refine x_len Tryd.underlying91 (hS.rdl 2 ha0 rfl).2.1 hA (fun ac hA => ?_) rfl rfl rfl rfl rfl
  refine x_m hA rfl fun ac hA => ?_
  refine wn (hK519 _ _ ?_)
  refine wp_block_k fun Kx520 hKx520 => ?_
  have hb2 : ∀ (l606 : (List Int)), column_Texts_b2 l336 l606 = some y → ∀ (A607 : Option Addr) (n608 : Nat) (c609 : Nat) (ac : Act) (w : World), FR 51 [] ac [(4, .slice A337 n338 c339), (7, .slice A607 n608 c609)] → SH r (own (kI .u8) 5 A337 n338 c339 l336 :: own (kI .i64) 2 A607 n608 c609 l606 :: L) w → Kx520 ac w := by
   intro l606 hF A607 n608 c609 ac w hA hS
   unfold column_Texts_b2 at hF
   refine hKx520 _ _ ?_
   refine hK341 _ _ ?_
   refine ws fun K610 hK610 => ?_
   refine x_m hA rfl fun ac hA => ?_
   refine x_m hA rfl fun ac hA => ?_
   obtain ⟨y611, h612, hF⟩ := bnd hF
   refine x_call en45 hA (F_column_Ints (L := own (kI .u8) 5 A337 n338 c339 l336 :: own (kI .i64) 2 A607 n608 c609 l606 :: L) l606 A607 n608 c609 h612 (RdL.own 1 rfl (hS.dropN 0)) hS) (fun v ac w hR hA => ?_) rfl rfl rfl rfl rfl
   obtain ⟨B613, m614, d615, rfl, hS⟩ := hR
   obtain ⟨h616, hF⟩ := chk_some hF
   have hr := hS.rd 0 rfl
   refine x_app 1 inf5 Tryd.underlying24 hA hS hr.1 hr.2.1 h616 rfl (fun A617 n618 c619 ac w hS hA => ?_) rfl rfl rfl rfl rfl rfl rfl rfl rfl
   refine x_m hA rfl fun ac hA => ?_
   refine wn (hK610 _ _ ?_)
   refine wp_ret ?_
   replace hS := hS.drop 1
   replace hS := hS.drop 1
   cases hF
   refine hQ _ _ ?_
   refine lv Tryd.results46 hA rfl ?_
   exact ⟨A617, n618, c619, rfl, hS⟩
  obtain ⟨t684, hl684, hF⟩ := bnd hF
  have hx684_2 : ∀ (l681 : (List Int)), (l681) = t684 → ∀ (A682 : Option Addr) (n683 : Nat) (c684 : Nat) (ac : Act) (w : World), FR 51 [] ac [(4, .slice A337 n338 c339), (7, .slice A682 n683 c684)] → SH r (own (kI .u8) 5 A337 n338 c339 l336 :: own (kI .i64) 2 A682 n683 c684 l681 :: L) w → Kx520 ac w := by
   intro l681 ht A682 n683 c684 ac w hA hS
   subst ht
   replace hF : column_Texts_x1_2 l336 l681 = some y := hF
   unfold column_Texts_x1_2 at hF
   exact hb2 l681 hF A682 n683 c684 ac w (hA.sub _ rfl) hS
  replace hS := SH.nil_own (d := (kI .i64)) (e := 2) hS
  replace hS := hS.pk 2
  replace hS := hS.pk 2
  refine wp_loop_fn hl684 (fun s ac w => ∃ (A653 : Option Addr) (n654 : Nat) (c655 : Nat), FR 51 [] ac [(3, .slice A111 n112 c113), (4, .slice A337 n338 c339), (7, .slice A653 n654 c655), (30, .slice A0 n0 c0), (31, .int .i64 (a0.length : Int)), (32, .int .i64 s.2)] ∧ SH r (own kS 9 A111 n112 c113 y109 :: own (kI .u8) 5 A337 n338 c339 l336 :: own (kI .i64) 2 A653 n654 c655 s.1 :: L) w) ⟨none, 0, 0, hA.sub _ rfl, hS⟩ ?_
  intro N684 s684 o684 hF N684_ T684_ ac w hLab
  obtain ⟨l652, x656⟩ := s684
  replace hF : column_Texts_l1 a0 y109 l652 x656 = some o684 := hF
  unfold column_Texts_l1 at hF
  try dsimp only at hLab
  obtain ⟨A653, n654, c655, hA, hS⟩ := hLab
  refine ws fun K686 hK686 => ?_
  refine x_v hA (r_ltI rfl (hA.ev rfl) (hA.ev rfl)) rfl fun ac hA => ?_
  refine wn (hK686 _ _ ?_)
  refine wp_seq_k fun K687 hK687 => ?_
  refine c_if hA rfl (fun hb688 => ?_) fun hb688 => ?_
  ·replace hF := ift hb688 hF
   refine wp_skip ?_
   refine hK687 _ _ ?_
   refine wp_seq_k fun K689 hK689 => ?_
   refine wp_block_k fun Kx690 hKx690 => ?_
   refine ws fun K691 hK691 => ?_
   obtain ⟨x692, h693, hF⟩ := bnd hF
   refine x_ia Tryd.underlying91 sz9 (hS.rdl 3 ha0 rfl) h693 hA (fun ac hA => ?_) rfl rfl rfl rfl rfl rfl
   obtain ⟨cs, hV, hc694⟩ := el (hS.rdl 3 ha0 rfl) h693
   obtain rfl := hV
   refine x_ld Tryd.underlying9 (hc694 0 _ rfl) hA (fun ac hA => ?_) rfl rfl rfl rfl rfl rfl
   refine x_m hA rfl fun ac hA => ?_
   refine wn (hK691 _ _ ?_)
   refine ws fun K695 hK695 => ?_
   refine x_m hA rfl fun ac hA => ?_
   refine x_m hA rfl fun ac hA => ?_
   obtain ⟨y696, h697, hF⟩ := bnd hF
   refine x_call en72 hA (F_slices_BinarySearch_string_string (L := own kS 9 A111 n112 c113 y109 :: own (kI .u8) 5 A337 n338 c339 l336 :: own (kI .i64) 2 A653 n654 c655 l652 :: L) y109 x692 A111 n112 c113 h697 (RdL.own 0 rfl (hS.dropN 0)) hS) (fun v ac w hR hA => ?_) rfl rfl rfl rfl rfl
   obtain ⟨rfl, hS⟩ := hR
   refine x_m hA rfl fun ac hA => ?_
   refine x_v hA (r_extract rfl (hA.ev rfl) rfl) rfl fun ac hA => ?_
   refine x_v hA (r_extract rfl (hA.ev rfl) rfl) rfl fun ac hA => ?_
   refine x_m hA rfl fun ac hA => ?_
   refine x_m hA rfl fun ac hA => ?_
   refine wn (hK695 _ _ ?_)
   refine wp_reg ?_
   refine x_m hA rfl fun ac hA => ?_
   refine x_m hA rfl fun ac hA => ?_
   refine x_bsl (d := (kI .i64)) (e := 2) (ps := #[(0, .int .i64 y696.1)]) (cells := [.int .i64 y696.1]) (xs := [y696.1]) (fun w => by kernel_rfl) rfl ⟨[.int .i64 y696.1], _, rfl, rfl, rfl⟩ hA hS (fun g698 ac w hS hA => ?_) rfl rfl rfl rfl rfl rfl
   obtain ⟨h699, hF⟩ := chk_some hF
   have hr := hS.rd 0 rfl
   refine x_app 3 inf2 Tryd.underlying90 hA hS hr.1 hr.2.1 h699 rfl (fun A700 n701 c702 ac w hS hA => ?_) rfl rfl rfl rfl rfl rfl rfl rfl rfl
   refine x_m hA rfl fun ac hA => ?_
   refine wpList_nil ?_
   refine hKx690 _ _ ?_
   refine hK689 _ _ ?_
   refine wp_reg ?_
   obtain ⟨x703, h704, hF⟩ := ltt_ hF
   refine x_v (v := .int .i64 x703) hA (rv_i h704 (r_add rfl (hA.ev rfl) (hA.ev rfl))) rfl fun ac hA => ?_
   refine x_m hA rfl fun ac hA => ?_
   refine wpList_nil ?_
   replace hS := hS.drop 1
   replace hS := hS.pk 2
   replace hS := hS.pk 2
   cases hF
   exact ⟨_, N684_ _ rfl, A700, n701, c702, hA.sub _ rfl, hS⟩
  replace hF := iff' hb688 hF
  refine wp_exit ?_
  replace hS := hS.drop 0
  cases hF
  exact hx684_2 l652 (T684_ _ rfl) A653 n654 c655 ac w (hA.sub _ rfl) hS
 obtain ⟨t755, hl755, hF⟩ := bnd hF
 have hx755_0 : ∀ (l752 : (List Int)), (l752) = t755 → ∀ (A753 : Option Addr) (n754 : Nat) (c755 : Nat) (ac : Act) (w : World), FR 51 [] ac [(0, .slice A0 n0 c0), (3, .slice A111 n112 c113), (4, .slice A753 n754 c755)] → SH r (own kS 9 A111 n112 c113 y109 :: own (kI .u8) 5 A753 n754 c755 l752 :: L) w → Kx267 ac w := by
  intro l752 ht A753 n754 c755 ac w hA hS
  subst ht
  replace hF : column_Texts_x2_0 a0 y109 l752 = some y := hF
  unfold column_Texts_x2_0 at hF
  exact hb1 l752 hF A753 n754 c755 ac w (hA.sub _ rfl) hS
 replace hS := hS.pk 1
 refine wp_loop_fn hl755 (fun s ac w => ∃ (A727 : Option Addr) (n728 : Nat) (c729 : Nat), FR 51 [] ac [(0, .slice A0 n0 c0), (3, .slice A111 n112 c113), (4, .slice A727 n728 c729), (20, .slice A111 n112 c113), (21, .int .i64 (y109.length : Int)), (22, .int .i64 s.2)] ∧ SH r (own kS 9 A111 n112 c113 y109 :: own (kI .u8) 5 A727 n728 c729 s.1 :: L) w) ⟨B119, m120, d121, hA.sub _ rfl, hS⟩ ?_
 intro N755 s755 o755 hF N755_ T755_ ac w hLab
 obtain ⟨l726, x730⟩ := s755
 replace hF : column_Texts_l2 y109 l726 x730 = some o755 := hF
 unfold column_Texts_l2 at hF
 try dsimp only at hLab
 obtain ⟨A727, n728, c729, hA, hS⟩ := hLab
 refine ws fun K757 hK757 => ?_
 refine x_v hA (r_ltI rfl (hA.ev rfl) (hA.ev rfl)) rfl fun ac hA => ?_
 refine wn (hK757 _ _ ?_)
 refine wp_seq_k fun K758 hK758 => ?_
 refine c_if hA rfl (fun hb759 => ?_) fun hb759 => ?_
 ·replace hF := ift hb759 hF
  refine wp_skip ?_
  refine hK758 _ _ ?_
  refine wp_seq_k fun K760 hK760 => ?_
  refine wp_block_k fun Kx761 hKx761 => ?_
  refine ws fun K762 hK762 => ?_
  obtain ⟨x763, h764, hF⟩ := bnd hF
  refine x_ia Tryd.underlying91 sz9 (hS.rd 0 rfl) h764 hA (fun ac hA => ?_) rfl rfl rfl rfl rfl rfl
  obtain ⟨cs, hV, hc765⟩ := el (hS.rd 0 rfl) h764
  obtain rfl := hV
  refine x_ld Tryd.underlying9 (hc765 0 _ rfl) hA (fun ac hA => ?_) rfl rfl rfl rfl rfl rfl
  refine x_m hA rfl fun ac hA => ?_
  refine wn (hK762 _ _ ?_)
  refine wp_reg ?_
  refine x_m hA rfl fun ac hA => ?_
  refine x_m hA rfl fun ac hA => ?_
  replace hS := hS.pk 1
  obtain ⟨y766, h767, hF⟩ := bnd hF
  refine x_call en29 hA (F_column_Text (L := own kS 9 A111 n112 c113 y109 :: L) l726 x763 A727 n728 c729 h767 hS) (fun v ac w hR hA => ?_) rfl rfl rfl rfl rfl
  obtain ⟨B768, m769, d770, rfl, hS⟩ := hR
  refine x_m hA rfl fun ac hA => ?_
  refine wpList_nil ?_
  refine hKx761 _ _ ?_
  refine hK760 _ _ ?_
  refine wp_reg ?_
  obtain ⟨x771, h772, hF⟩ := ltt_ hF
  refine x_v (v := .int .i64 x771) hA (rv_i h772 (r_add rfl (hA.ev rfl) (hA.ev rfl))) rfl fun ac hA => ?_
  refine x_m hA rfl fun ac hA => ?_
  refine wpList_nil ?_
  replace hS := hS.pk 1
  cases hF
  exact ⟨_, N755_ _ rfl, B768, m769, d770, hA.sub _ rfl, hS⟩
 replace hF := iff' hb759 hF
 refine wp_exit ?_
 cases hF
 exact hx755_0 l726 (T755_ _ rfl) A727 n728 c729 ac w (hA.sub _ rfl) hS
end Go.Proofs.YteodeedejjcmgaaDoor.M
namespace Go.Proofs.YteodeedejjcmgaaDoor.M
open Go Go.RowKit Go.Proofs.YteodeedejjcmgaaDoor.E
set_option linter.unusedVariables false
set_option linter.unusedSimpArgs false
noncomputable def event_Form (a0 : S44) (a1 : Int) : Option (Bool) :=
  if (decide (0 ≤ a0.f1)) = true then (if (decide (a0.f1 < a1)) = true then (if (decide (-1099511627776 ≤ a0.f2)) = true then (if (decide (a0.f2 ≤ 1099511627776)) = true then (if (decide ((a0.f3.length : Int) ≤ 32)) = true then (some (decide (a0.f0 < 1099511627776))) else (some false)) else (some false)) else (some false)) else (some false)) else (some false)
noncomputable def r06_Form (a0 : S44) (a1 : Int) : Option (Bool) :=
  if (decide (0 ≤ a0.f1)) = true then (if (decide (a0.f1 < a1)) = true then (if (decide (-1099511627776 ≤ a0.f2)) = true then (if (decide (a0.f2 ≤ 1099511627776)) = true then (if (decide ((a0.f3.length : Int) ≤ 32)) = true then (some (decide (a0.f0 < 1099511627776))) else (some false)) else (some false)) else (some false)) else (some false)) else (some false)
end Go.Proofs.YteodeedejjcmgaaDoor.M
namespace Go.Proofs.YteodeedejjcmgaaDoor.M
open Go Go.RowKit Go.Proofs.YteodeedejjcmgaaDoor.E
set_option linter.unusedVariables false
set_option maxRecDepth 100000
set_option maxHeartbeats 4000000
set_option linter.unusedSimpArgs false
theorem F_event_Form {r : World} {L : List HP} {w : World} (a0 : S44) (a1 : Int) {y : (Bool)} (hF : event_Form a0 a1 = some y) (hS : SH r (L) w) :
  Ret Tryd.prog 23 #[.agg #[.int .u64 a0.f0, .int .i64 a0.f1, .int .i64 a0.f2, str a0.f3, .float .f64 a0.f4], .int .i64 a1] w fun v w' => v = .bool y ∧ SH r (L) w' := by
 refine enter Tryd.func23 rfl Tryd.ntmps23 [(0, .agg #[.int .u64 a0.f0, .int .i64 a0.f1, .int .i64 a0.f2, str a0.f3, .float .f64 a0.f4]), (1, .int .i64 a1)] rfl (by simp) ?_
 intro ac hA Qf hQ hQn
 unfold event_Form at hF
 refine ws fun K101 hK101 => ?_
 refine x_box hA hS (fun g102 ac w hS hA => ?_) rfl rfl rfl rfl rfl rfl
 refine x_m hA rfl fun ac hA => ?_
 refine wn (hK101 _ _ ?_)
 refine ws fun K103 hK103 => ?_
 refine x_fab fa44_1 hA (fun ac hA => ?_) rfl rfl rfl rfl rfl
 refine x_ld Tryd.underlying3 (hS.cell 0 rfl 1 _ rfl) hA (fun ac hA => ?_) rfl rfl rfl rfl rfl rfl
 refine x_v hA (r_geI rfl (hA.ev rfl) (hA.ev rfl)) rfl fun ac hA => ?_
 refine x_m hA rfl fun ac hA => ?_
 refine bcase (b := decide (0 ≤ a0.f1)) (fun hb104 => ?_) fun hb104 => ?_
 ·replace hF := ift hb104 hF
  refine x_on hb104 hA ?_ rfl rfl rfl
  refine x_fab fa44_1 hA (fun ac hA => ?_) rfl rfl rfl rfl rfl
  refine x_on hb104 hA ?_ rfl rfl rfl
  refine x_ld Tryd.underlying3 (hS.cell 0 rfl 1 _ rfl) hA (fun ac hA => ?_) rfl rfl rfl rfl rfl rfl
  refine x_on hb104 hA ?_ rfl rfl rfl
  refine x_m hA rfl fun ac hA => ?_
  refine x_on hb104 hA ?_ rfl rfl rfl
  refine x_v hA (r_ltI rfl (hA.ev rfl) (hA.ev rfl)) rfl fun ac hA => ?_
  refine x_pickt hb104 hA (fun ac hA => ?_) rfl rfl rfl rfl rfl rfl
  refine x_m hA rfl fun ac hA => ?_
  refine bcase (b := decide (a0.f1 < a1)) (fun hb105 => ?_) fun hb105 => ?_
  ·replace hF := ift hb105 hF
   refine x_on hb105 hA ?_ rfl rfl rfl
   refine x_fab fa44_2 hA (fun ac hA => ?_) rfl rfl rfl rfl rfl
   refine x_on hb105 hA ?_ rfl rfl rfl
   refine x_ld Tryd.underlying2 (hS.cell 0 rfl 2 _ rfl) hA (fun ac hA => ?_) rfl rfl rfl rfl rfl rfl
   refine x_on hb105 hA ?_ rfl rfl rfl
   refine x_v hA (r_geI rfl (hA.ev rfl) (hA.ev rfl)) rfl fun ac hA => ?_
   refine x_pickt hb105 hA (fun ac hA => ?_) rfl rfl rfl rfl rfl rfl
   refine x_m hA rfl fun ac hA => ?_
   refine bcase (b := decide (-1099511627776 ≤ a0.f2)) (fun hb106 => ?_) fun hb106 => ?_
   ·replace hF := ift hb106 hF
    refine x_on hb106 hA ?_ rfl rfl rfl
    refine x_fab fa44_2 hA (fun ac hA => ?_) rfl rfl rfl rfl rfl
    refine x_on hb106 hA ?_ rfl rfl rfl
    refine x_ld Tryd.underlying2 (hS.cell 0 rfl 2 _ rfl) hA (fun ac hA => ?_) rfl rfl rfl rfl rfl rfl
    refine x_on hb106 hA ?_ rfl rfl rfl
    refine x_v hA (r_leI rfl (hA.ev rfl) (hA.ev rfl)) rfl fun ac hA => ?_
    refine x_pickt hb106 hA (fun ac hA => ?_) rfl rfl rfl rfl rfl rfl
    refine x_m hA rfl fun ac hA => ?_
    refine bcase (b := decide (a0.f2 ≤ 1099511627776)) (fun hb107 => ?_) fun hb107 => ?_
    ·replace hF := ift hb107 hF
     refine x_on hb107 hA ?_ rfl rfl rfl
     refine x_fab fa44_3 hA (fun ac hA => ?_) rfl rfl rfl rfl rfl
     refine x_on hb107 hA ?_ rfl rfl rfl
     refine x_ld Tryd.underlying9 (hS.cell 0 rfl 3 _ rfl) hA (fun ac hA => ?_) rfl rfl rfl rfl rfl rfl
     refine x_on hb107 hA ?_ rfl rfl rfl
     refine x_v hA (r_lenS Tryd.underlying9 rfl (hA.ev rfl)) rfl fun ac hA => ?_
     refine x_on hb107 hA ?_ rfl rfl rfl
     refine x_v hA (r_leI rfl (hA.ev rfl) (hA.ev rfl)) rfl fun ac hA => ?_
     refine x_pickt hb107 hA (fun ac hA => ?_) rfl rfl rfl rfl rfl rfl
     refine x_m hA rfl fun ac hA => ?_
     refine bcase (b := decide ((a0.f3.length : Int) ≤ 32)) (fun hb108 => ?_) fun hb108 => ?_
     ·replace hF := ift hb108 hF
      refine x_on hb108 hA ?_ rfl rfl rfl
      refine x_fab fa44_0 hA (fun ac hA => ?_) rfl rfl rfl rfl rfl
      refine x_on hb108 hA ?_ rfl rfl rfl
      refine x_ld Tryd.underlying31 (hS.cell 0 rfl 0 _ rfl) hA (fun ac hA => ?_) rfl rfl rfl rfl rfl rfl
      refine x_on hb108 hA ?_ rfl rfl rfl
      refine x_v hA (r_ltI rfl (hA.ev rfl) (hA.ev rfl)) rfl fun ac hA => ?_
      refine x_pickt hb108 hA (fun ac hA => ?_) rfl rfl rfl rfl rfl rfl
      refine x_m hA rfl fun ac hA => ?_
      refine wn (hK103 _ _ ?_)
      refine wp_ret ?_
      replace hS := hS.drop 0
      cases hF
      refine hQ _ _ ?_
      refine lv Tryd.results23 hA rfl ?_
      exact ⟨rfl, hS⟩
     replace hF := iff' hb108 hF
     refine x_off hb108 hA (fun ac hA => ?_) rfl rfl rfl rfl rfl
     refine x_off hb108 hA (fun ac hA => ?_) rfl rfl rfl rfl rfl
     refine x_off hb108 hA (fun ac hA => ?_) rfl rfl rfl rfl rfl
     refine x_pickf hb108 hA (fun ac hA => ?_) rfl rfl rfl rfl rfl rfl
     refine x_m hA rfl fun ac hA => ?_
     refine wn (hK103 _ _ ?_)
     refine wp_ret ?_
     replace hS := hS.drop 0
     cases hF
     refine hQ _ _ ?_
     refine lv Tryd.results23 hA rfl ?_
     exact ⟨rfl, hS⟩
    replace hF := iff' hb107 hF
    refine x_off hb107 hA (fun ac hA => ?_) rfl rfl rfl rfl rfl
    refine x_off hb107 hA (fun ac hA => ?_) rfl rfl rfl rfl rfl
    refine x_off hb107 hA (fun ac hA => ?_) rfl rfl rfl rfl rfl
    refine x_off hb107 hA (fun ac hA => ?_) rfl rfl rfl rfl rfl
    refine x_pickf hb107 hA (fun ac hA => ?_) rfl rfl rfl rfl rfl rfl
    refine x_m hA rfl fun ac hA => ?_
    refine x_off rfl hA (fun ac hA => ?_) rfl rfl rfl rfl rfl
    refine x_off rfl hA (fun ac hA => ?_) rfl rfl rfl rfl rfl
    refine x_off rfl hA (fun ac hA => ?_) rfl rfl rfl rfl rfl
    refine x_pickf rfl hA (fun ac hA => ?_) rfl rfl rfl rfl rfl rfl
    refine x_m hA rfl fun ac hA => ?_
    refine wn (hK103 _ _ ?_)
    refine wp_ret ?_
    replace hS := hS.drop 0
    cases hF
    refine hQ _ _ ?_
    refine lv Tryd.results23 hA rfl ?_
    exact ⟨rfl, hS⟩
   replace hF := iff' hb106 hF
   refine x_off hb106 hA (fun ac hA => ?_) rfl rfl rfl rfl rfl
   refine x_off hb106 hA (fun ac hA => ?_) rfl rfl rfl rfl rfl
   refine x_off hb106 hA (fun ac hA => ?_) rfl rfl rfl rfl rfl
   refine x_pickf hb106 hA (fun ac hA => ?_) rfl rfl rfl rfl rfl rfl
   refine x_m hA rfl fun ac hA => ?_
   refine x_off rfl hA (fun ac hA => ?_) rfl rfl rfl rfl rfl
   refine x_off rfl hA (fun ac hA => ?_) rfl rfl rfl rfl rfl
   refine x_off rfl hA (fun ac hA => ?_) rfl rfl rfl rfl rfl
   refine x_off rfl hA (fun ac hA => ?_) rfl rfl rfl rfl rfl
   refine x_pickf rfl hA (fun ac hA => ?_) rfl rfl rfl rfl rfl rfl
   refine x_m hA rfl fun ac hA => ?_
   refine x_off rfl hA (fun ac hA => ?_) rfl rfl rfl rfl rfl
   refine x_off rfl hA (fun ac hA => ?_) rfl rfl rfl rfl rfl
   refine x_off rfl hA (fun ac hA => ?_) rfl rfl rfl rfl rfl
   refine x_pickf rfl hA (fun ac hA => ?_) rfl rfl rfl rfl rfl rfl
   refine x_m hA rfl fun ac hA => ?_
   refine wn (hK103 _ _ ?_)
   refine wp_ret ?_
   replace hS := hS.drop 0
   cases hF
   refine hQ _ _ ?_
   refine lv Tryd.results23 hA rfl ?_
   exact ⟨rfl, hS⟩
  replace hF := iff' hb105 hF
  refine x_off hb105 hA (fun ac hA => ?_) rfl rfl rfl rfl rfl
  refine x_off hb105 hA (fun ac hA => ?_) rfl rfl rfl rfl rfl
  refine x_off hb105 hA (fun ac hA => ?_) rfl rfl rfl rfl rfl
  refine x_pickf hb105 hA (fun ac hA => ?_) rfl rfl rfl rfl rfl rfl
  refine x_m hA rfl fun ac hA => ?_
  refine x_off rfl hA (fun ac hA => ?_) rfl rfl rfl rfl rfl
  refine x_off rfl hA (fun ac hA => ?_) rfl rfl rfl rfl rfl
  refine x_off rfl hA (fun ac hA => ?_) rfl rfl rfl rfl rfl
  refine x_pickf rfl hA (fun ac hA => ?_) rfl rfl rfl rfl rfl rfl
  refine x_m hA rfl fun ac hA => ?_
  refine x_off rfl hA (fun ac hA => ?_) rfl rfl rfl rfl rfl
  refine x_off rfl hA (fun ac hA => ?_) rfl rfl rfl rfl rfl
  refine x_off rfl hA (fun ac hA => ?_) rfl rfl rfl rfl rfl
  refine x_off rfl hA (fun ac hA => ?_) rfl rfl rfl rfl rfl
  refine x_pickf rfl hA (fun ac hA => ?_) rfl rfl rfl rfl rfl rfl
  refine x_m hA rfl fun ac hA => ?_
  refine x_off rfl hA (fun ac hA => ?_) rfl rfl rfl rfl rfl
  refine x_off rfl hA (fun ac hA => ?_) rfl rfl rfl rfl rfl
  refine x_off rfl hA (fun ac hA => ?_) rfl rfl rfl rfl rfl
  refine x_pickf rfl hA (fun ac hA => ?_) rfl rfl rfl rfl rfl rfl
  refine x_m hA rfl fun ac hA => ?_
  refine wn (hK103 _ _ ?_)
  refine wp_ret ?_
  replace hS := hS.drop 0
  cases hF
  refine hQ _ _ ?_
  refine lv Tryd.results23 hA rfl ?_
  exact ⟨rfl, hS⟩
 replace hF := iff' hb104 hF
 refine x_off hb104 hA (fun ac hA => ?_) rfl rfl rfl rfl rfl
 refine x_off hb104 hA (fun ac hA => ?_) rfl rfl rfl rfl rfl
 refine x_off hb104 hA (fun ac hA => ?_) rfl rfl rfl rfl rfl
 refine x_off hb104 hA (fun ac hA => ?_) rfl rfl rfl rfl rfl
 refine x_pickf hb104 hA (fun ac hA => ?_) rfl rfl rfl rfl rfl rfl
 refine x_m hA rfl fun ac hA => ?_
 refine x_off rfl hA (fun ac hA => ?_) rfl rfl rfl rfl rfl
 refine x_off rfl hA (fun ac hA => ?_) rfl rfl rfl rfl rfl
 refine x_off rfl hA (fun ac hA => ?_) rfl rfl rfl rfl rfl
 refine x_pickf rfl hA (fun ac hA => ?_) rfl rfl rfl rfl rfl rfl
 refine x_m hA rfl fun ac hA => ?_
 refine x_off rfl hA (fun ac hA => ?_) rfl rfl rfl rfl rfl
 refine x_off rfl hA (fun ac hA => ?_) rfl rfl rfl rfl rfl
 refine x_off rfl hA (fun ac hA => ?_) rfl rfl rfl rfl rfl
 refine x_pickf rfl hA (fun ac hA => ?_) rfl rfl rfl rfl rfl rfl
 refine x_m hA rfl fun ac hA => ?_
 refine x_off rfl hA (fun ac hA => ?_) rfl rfl rfl rfl rfl
 refine x_off rfl hA (fun ac hA => ?_) rfl rfl rfl rfl rfl
 refine x_off rfl hA (fun ac hA => ?_) rfl rfl rfl rfl rfl
 refine x_off rfl hA (fun ac hA => ?_) rfl rfl rfl rfl rfl
 refine x_pickf rfl hA (fun ac hA => ?_) rfl rfl rfl rfl rfl rfl
 refine x_m hA rfl fun ac hA => ?_
 refine x_off rfl hA (fun ac hA => ?_) rfl rfl rfl rfl rfl
 refine x_off rfl hA (fun ac hA => ?_) rfl rfl rfl rfl rfl
 refine x_off rfl hA (fun ac hA => ?_) rfl rfl rfl rfl rfl
 refine x_pickf rfl hA (fun ac hA => ?_) rfl rfl rfl rfl rfl rfl
 refine x_m hA rfl fun ac hA => ?_
 refine wn (hK103 _ _ ?_)
 refine wp_ret ?_
 replace hS := hS.drop 0
 cases hF
 refine hQ _ _ ?_
 refine lv Tryd.results23 hA rfl ?_
 exact ⟨rfl, hS⟩
theorem F_r06_Form {r : World} {L : List HP} {w : World} (a0 : S44) (a1 : Int) {y : (Bool)} (hF : r06_Form a0 a1 = some y) (hS : SH r (L) w) :
  Ret Tryd.prog 31 #[.agg #[.int .u64 a0.f0, .int .i64 a0.f1, .int .i64 a0.f2, str a0.f3, .float .f64 a0.f4], .int .i64 a1] w fun v w' => v = .bool y ∧ SH r (L) w' := by
 refine enter Tryd.func31 rfl Tryd.ntmps31 [(0, .agg #[.int .u64 a0.f0, .int .i64 a0.f1, .int .i64 a0.f2, str a0.f3, .float .f64 a0.f4]), (1, .int .i64 a1)] rfl (by simp) ?_
 intro ac hA Qf hQ hQn
 unfold r06_Form at hF
 refine ws fun K101 hK101 => ?_
 refine x_box hA hS (fun g102 ac w hS hA => ?_) rfl rfl rfl rfl rfl rfl
 refine x_m hA rfl fun ac hA => ?_
 refine wn (hK101 _ _ ?_)
 refine ws fun K103 hK103 => ?_
 refine x_fab fa44_1 hA (fun ac hA => ?_) rfl rfl rfl rfl rfl
 refine x_ld Tryd.underlying3 (hS.cell 0 rfl 1 _ rfl) hA (fun ac hA => ?_) rfl rfl rfl rfl rfl rfl
 refine x_v hA (r_geI rfl (hA.ev rfl) (hA.ev rfl)) rfl fun ac hA => ?_
 refine x_m hA rfl fun ac hA => ?_
 refine bcase (b := decide (0 ≤ a0.f1)) (fun hb104 => ?_) fun hb104 => ?_
 ·replace hF := ift hb104 hF
  refine x_on hb104 hA ?_ rfl rfl rfl
  refine x_fab fa44_1 hA (fun ac hA => ?_) rfl rfl rfl rfl rfl
  refine x_on hb104 hA ?_ rfl rfl rfl
  refine x_ld Tryd.underlying3 (hS.cell 0 rfl 1 _ rfl) hA (fun ac hA => ?_) rfl rfl rfl rfl rfl rfl
  refine x_on hb104 hA ?_ rfl rfl rfl
  refine x_m hA rfl fun ac hA => ?_
  refine x_on hb104 hA ?_ rfl rfl rfl
  refine x_v hA (r_ltI rfl (hA.ev rfl) (hA.ev rfl)) rfl fun ac hA => ?_
  refine x_pickt hb104 hA (fun ac hA => ?_) rfl rfl rfl rfl rfl rfl
  refine x_m hA rfl fun ac hA => ?_
  refine bcase (b := decide (a0.f1 < a1)) (fun hb105 => ?_) fun hb105 => ?_
  ·replace hF := ift hb105 hF
   refine x_on hb105 hA ?_ rfl rfl rfl
   refine x_fab fa44_2 hA (fun ac hA => ?_) rfl rfl rfl rfl rfl
   refine x_on hb105 hA ?_ rfl rfl rfl
   refine x_ld Tryd.underlying2 (hS.cell 0 rfl 2 _ rfl) hA (fun ac hA => ?_) rfl rfl rfl rfl rfl rfl
   refine x_on hb105 hA ?_ rfl rfl rfl
   refine x_v hA (r_geI rfl (hA.ev rfl) (hA.ev rfl)) rfl fun ac hA => ?_
   refine x_pickt hb105 hA (fun ac hA => ?_) rfl rfl rfl rfl rfl rfl
   refine x_m hA rfl fun ac hA => ?_
   refine bcase (b := decide (-1099511627776 ≤ a0.f2)) (fun hb106 => ?_) fun hb106 => ?_
   ·replace hF := ift hb106 hF
    refine x_on hb106 hA ?_ rfl rfl rfl
    refine x_fab fa44_2 hA (fun ac hA => ?_) rfl rfl rfl rfl rfl
    refine x_on hb106 hA ?_ rfl rfl rfl
    refine x_ld Tryd.underlying2 (hS.cell 0 rfl 2 _ rfl) hA (fun ac hA => ?_) rfl rfl rfl rfl rfl rfl
    refine x_on hb106 hA ?_ rfl rfl rfl
    refine x_v hA (r_leI rfl (hA.ev rfl) (hA.ev rfl)) rfl fun ac hA => ?_
    refine x_pickt hb106 hA (fun ac hA => ?_) rfl rfl rfl rfl rfl rfl
    refine x_m hA rfl fun ac hA => ?_
    refine bcase (b := decide (a0.f2 ≤ 1099511627776)) (fun hb107 => ?_) fun hb107 => ?_
    ·replace hF := ift hb107 hF
     refine x_on hb107 hA ?_ rfl rfl rfl
     refine x_fab fa44_3 hA (fun ac hA => ?_) rfl rfl rfl rfl rfl
     refine x_on hb107 hA ?_ rfl rfl rfl
     refine x_ld Tryd.underlying9 (hS.cell 0 rfl 3 _ rfl) hA (fun ac hA => ?_) rfl rfl rfl rfl rfl rfl
     refine x_on hb107 hA ?_ rfl rfl rfl
     refine x_v hA (r_lenS Tryd.underlying9 rfl (hA.ev rfl)) rfl fun ac hA => ?_
     refine x_on hb107 hA ?_ rfl rfl rfl
     refine x_v hA (r_leI rfl (hA.ev rfl) (hA.ev rfl)) rfl fun ac hA => ?_
     refine x_pickt hb107 hA (fun ac hA => ?_) rfl rfl rfl rfl rfl rfl
     refine x_m hA rfl fun ac hA => ?_
     refine bcase (b := decide ((a0.f3.length : Int) ≤ 32)) (fun hb108 => ?_) fun hb108 => ?_
     ·replace hF := ift hb108 hF
      refine x_on hb108 hA ?_ rfl rfl rfl
      refine x_fab fa44_0 hA (fun ac hA => ?_) rfl rfl rfl rfl rfl
      refine x_on hb108 hA ?_ rfl rfl rfl
      refine x_ld Tryd.underlying31 (hS.cell 0 rfl 0 _ rfl) hA (fun ac hA => ?_) rfl rfl rfl rfl rfl rfl
      refine x_on hb108 hA ?_ rfl rfl rfl
      refine x_v hA (r_ltI rfl (hA.ev rfl) (hA.ev rfl)) rfl fun ac hA => ?_
      refine x_pickt hb108 hA (fun ac hA => ?_) rfl rfl rfl rfl rfl rfl
      refine x_m hA rfl fun ac hA => ?_
      refine wn (hK103 _ _ ?_)
      refine wp_ret ?_
      replace hS := hS.drop 0
      cases hF
      refine hQ _ _ ?_
      refine lv Tryd.results31 hA rfl ?_
      exact ⟨rfl, hS⟩
     replace hF := iff' hb108 hF
     refine x_off hb108 hA (fun ac hA => ?_) rfl rfl rfl rfl rfl
     refine x_off hb108 hA (fun ac hA => ?_) rfl rfl rfl rfl rfl
     refine x_off hb108 hA (fun ac hA => ?_) rfl rfl rfl rfl rfl
     refine x_pickf hb108 hA (fun ac hA => ?_) rfl rfl rfl rfl rfl rfl
     refine x_m hA rfl fun ac hA => ?_
     refine wn (hK103 _ _ ?_)
     refine wp_ret ?_
     replace hS := hS.drop 0
     cases hF
     refine hQ _ _ ?_
     refine lv Tryd.results31 hA rfl ?_
     exact ⟨rfl, hS⟩
    replace hF := iff' hb107 hF
    refine x_off hb107 hA (fun ac hA => ?_) rfl rfl rfl rfl rfl
    refine x_off hb107 hA (fun ac hA => ?_) rfl rfl rfl rfl rfl
    refine x_off hb107 hA (fun ac hA => ?_) rfl rfl rfl rfl rfl
    refine x_off hb107 hA (fun ac hA => ?_) rfl rfl rfl rfl rfl
    refine x_pickf hb107 hA (fun ac hA => ?_) rfl rfl rfl rfl rfl rfl
    refine x_m hA rfl fun ac hA => ?_
    refine x_off rfl hA (fun ac hA => ?_) rfl rfl rfl rfl rfl
    refine x_off rfl hA (fun ac hA => ?_) rfl rfl rfl rfl rfl
    refine x_off rfl hA (fun ac hA => ?_) rfl rfl rfl rfl rfl
    refine x_pickf rfl hA (fun ac hA => ?_) rfl rfl rfl rfl rfl rfl
    refine x_m hA rfl fun ac hA => ?_
    refine wn (hK103 _ _ ?_)
    refine wp_ret ?_
    replace hS := hS.drop 0
    cases hF
    refine hQ _ _ ?_
    refine lv Tryd.results31 hA rfl ?_
    exact ⟨rfl, hS⟩
   replace hF := iff' hb106 hF
   refine x_off hb106 hA (fun ac hA => ?_) rfl rfl rfl rfl rfl
   refine x_off hb106 hA (fun ac hA => ?_) rfl rfl rfl rfl rfl
   refine x_off hb106 hA (fun ac hA => ?_) rfl rfl rfl rfl rfl
   refine x_pickf hb106 hA (fun ac hA => ?_) rfl rfl rfl rfl rfl rfl
   refine x_m hA rfl fun ac hA => ?_
   refine x_off rfl hA (fun ac hA => ?_) rfl rfl rfl rfl rfl
   refine x_off rfl hA (fun ac hA => ?_) rfl rfl rfl rfl rfl
   refine x_off rfl hA (fun ac hA => ?_) rfl rfl rfl rfl rfl
   refine x_off rfl hA (fun ac hA => ?_) rfl rfl rfl rfl rfl
   refine x_pickf rfl hA (fun ac hA => ?_) rfl rfl rfl rfl rfl rfl
   refine x_m hA rfl fun ac hA => ?_
   refine x_off rfl hA (fun ac hA => ?_) rfl rfl rfl rfl rfl
   refine x_off rfl hA (fun ac hA => ?_) rfl rfl rfl rfl rfl
   refine x_off rfl hA (fun ac hA => ?_) rfl rfl rfl rfl rfl
   refine x_pickf rfl hA (fun ac hA => ?_) rfl rfl rfl rfl rfl rfl
   refine x_m hA rfl fun ac hA => ?_
   refine wn (hK103 _ _ ?_)
   refine wp_ret ?_
   replace hS := hS.drop 0
   cases hF
   refine hQ _ _ ?_
   refine lv Tryd.results31 hA rfl ?_
   exact ⟨rfl, hS⟩
  replace hF := iff' hb105 hF
  refine x_off hb105 hA (fun ac hA => ?_) rfl rfl rfl rfl rfl
  refine x_off hb105 hA (fun ac hA => ?_) rfl rfl rfl rfl rfl
  refine x_off hb105 hA (fun ac hA => ?_) rfl rfl rfl rfl rfl
  refine x_pickf hb105 hA (fun ac hA => ?_) rfl rfl rfl rfl rfl rfl
  refine x_m hA rfl fun ac hA => ?_
  refine x_off rfl hA (fun ac hA => ?_) rfl rfl rfl rfl rfl
  refine x_off rfl hA (fun ac hA => ?_) rfl rfl rfl rfl rfl
  refine x_off rfl hA (fun ac hA => ?_) rfl rfl rfl rfl rfl
  refine x_pickf rfl hA (fun ac hA => ?_) rfl rfl rfl rfl rfl rfl
  refine x_m hA rfl fun ac hA => ?_
  refine x_off rfl hA (fun ac hA => ?_) rfl rfl rfl rfl rfl
  refine x_off rfl hA (fun ac hA => ?_) rfl rfl rfl rfl rfl
  refine x_off rfl hA (fun ac hA => ?_) rfl rfl rfl rfl rfl
  refine x_off rfl hA (fun ac hA => ?_) rfl rfl rfl rfl rfl
  refine x_pickf rfl hA (fun ac hA => ?_) rfl rfl rfl rfl rfl rfl
  refine x_m hA rfl fun ac hA => ?_
  refine x_off rfl hA (fun ac hA => ?_) rfl rfl rfl rfl rfl
  refine x_off rfl hA (fun ac hA => ?_) rfl rfl rfl rfl rfl
  refine x_off rfl hA (fun ac hA => ?_) rfl rfl rfl rfl rfl
  refine x_pickf rfl hA (fun ac hA => ?_) rfl rfl rfl rfl rfl rfl
  refine x_m hA rfl fun ac hA => ?_
  refine wn (hK103 _ _ ?_)
  refine wp_ret ?_
  replace hS := hS.drop 0
  cases hF
  refine hQ _ _ ?_
  refine lv Tryd.results31 hA rfl ?_
  exact ⟨rfl, hS⟩
 replace hF := iff' hb104 hF
 refine x_off hb104 hA (fun ac hA => ?_) rfl rfl rfl rfl rfl
 refine x_off hb104 hA (fun ac hA => ?_) rfl rfl rfl rfl rfl
 refine x_off hb104 hA (fun ac hA => ?_) rfl rfl rfl rfl rfl
 refine x_off hb104 hA (fun ac hA => ?_) rfl rfl rfl rfl rfl
 refine x_pickf hb104 hA (fun ac hA => ?_) rfl rfl rfl rfl rfl rfl
 refine x_m hA rfl fun ac hA => ?_
 refine x_off rfl hA (fun ac hA => ?_) rfl rfl rfl rfl rfl
 refine x_off rfl hA (fun ac hA => ?_) rfl rfl rfl rfl rfl
 refine x_off rfl hA (fun ac hA => ?_) rfl rfl rfl rfl rfl
 refine x_pickf rfl hA (fun ac hA => ?_) rfl rfl rfl rfl rfl rfl
 refine x_m hA rfl fun ac hA => ?_
 refine x_off rfl hA (fun ac hA => ?_) rfl rfl rfl rfl rfl
 refine x_off rfl hA (fun ac hA => ?_) rfl rfl rfl rfl rfl
 refine x_off rfl hA (fun ac hA => ?_) rfl rfl rfl rfl rfl
 refine x_pickf rfl hA (fun ac hA => ?_) rfl rfl rfl rfl rfl rfl
 refine x_m hA rfl fun ac hA => ?_
 refine x_off rfl hA (fun ac hA => ?_) rfl rfl rfl rfl rfl
 refine x_off rfl hA (fun ac hA => ?_) rfl rfl rfl rfl rfl
 refine x_off rfl hA (fun ac hA => ?_) rfl rfl rfl rfl rfl
 refine x_off rfl hA (fun ac hA => ?_) rfl rfl rfl rfl rfl
 refine x_pickf rfl hA (fun ac hA => ?_) rfl rfl rfl rfl rfl rfl
 refine x_m hA rfl fun ac hA => ?_
 refine x_off rfl hA (fun ac hA => ?_) rfl rfl rfl rfl rfl
 refine x_off rfl hA (fun ac hA => ?_) rfl rfl rfl rfl rfl
 refine x_off rfl hA (fun ac hA => ?_) rfl rfl rfl rfl rfl
 refine x_pickf rfl hA (fun ac hA => ?_) rfl rfl rfl rfl rfl rfl
 refine x_m hA rfl fun ac hA => ?_
 refine wn (hK103 _ _ ?_)
 refine wp_ret ?_
 replace hS := hS.drop 0
 cases hF
 refine hQ _ _ ?_
 refine lv Tryd.results31 hA rfl ?_
 exact ⟨rfl, hS⟩
end Go.Proofs.YteodeedejjcmgaaDoor.M
