/- Texts of the claim, joined: what it uses of Mtx, Va, Dst0, Vb, Dst, Mst, Dev. -/
import Derived.Test.YthokgnonmcgkcaaGreatDoorZf
import Derived.Test.YthokgnonmcgkcaaGreatDoorProg
import Derived.Shelf.SlIter.Sorted
import Derived.Shelf.Sort.Plain
import Derived.Shelf.Slices.In.SortNone
import Derived.Shelf.Slices.CompactS
import Derived.KernelRfl
namespace Go.Proofs.YthokgnonmcgkcaaGreatDoor.M
open Go Go.RowKit Go.Proofs.YthokgnonmcgkcaaGreatDoor.E
set_option linter.unusedVariables false
set_option maxRecDepth 100000
set_option maxHeartbeats 4000000
set_option linter.unusedSimpArgs false
theorem F_slices_Index_bool_bool {r : World} {L : List HP} {w : World} (a0 : (List Bool)) (a1 : Bool) (A0 : Option Addr) (n0 : Nat) (c0 : Nat) {y : (Int)} (hF : slices_Index_bool_bool a0 a1 = some y) (ha0 : RdL L kB A0 n0 c0 a0) (hS : SH r (L) w) :
  Ret Tryz.prog 76 #[.slice A0 n0 c0, .bool a1] w fun v w' => v = .int .i64 y ∧ SH r (L) w' := by
 refine enter Tryz.func76 rfl Tryz.ntmps76 [(0, .slice A0 n0 c0), (1, .bool a1)] rfl (by simp) ?_
 intro ac hA Qf hQ hQn
 unfold slices_Index_bool_bool at hF
 refine ws fun K101 hK101 => ?_
 refine x_m hA rfl fun ac hA => ?_
 refine wn (hK101 _ _ ?_)
 refine wp_seq_k fun K102 hK102 => ?_
 refine ws fun K198 hK198 => ?_
 refine x_m hA rfl fun ac hA => ?_
 refine x_len Tryz.underlying90 (hS.rdl 0 ha0 rfl).2.1 hA (fun ac hA => ?_) rfl rfl rfl rfl rfl
 refine x_m hA rfl fun ac hA => ?_
 refine wn (hK198 _ _ ?_)
 refine wp_block_k fun Kx199 hKx199 => ?_
 have hb1 : slices_Index_bool_bool_b1 = some y → ∀ (ac : Act) (w : World), FR 19 [] ac [] → SH r (L) w → Kx199 ac w := by
  intro hF ac w hA hS
  unfold slices_Index_bool_bool_b1 at hF
  refine hKx199 _ _ ?_
  refine hK102 _ _ ?_
  refine ws fun K246 hK246 => ?_
  refine x_m hA rfl fun ac hA => ?_
  refine wn (hK246 _ _ ?_)
  refine wp_ret ?_
  cases hF
  refine hQ _ _ ?_
  refine lv Tryz.results76 hA rfl ?_
  exact ⟨rfl, hS⟩
 obtain ⟨t277, hl277, hF⟩ := bnd hF
 have hR277 := hF
 have hx277_0 : (.inl ()) = t277 → ∀ (ac : Act) (w : World), FR 19 [] ac [] → SH r (L) w → Kx199 ac w := by
  intro ht ac w hA hS
  subst ht
  replace hF : slices_Index_bool_bool_x1_0 = some y := hF
  unfold slices_Index_bool_bool_x1_0 at hF
  exact hb1 hF ac w (hA.sub _ rfl) hS
 refine wp_loop_fn hl277 (fun s ac w => FR 19 [] ac [(0, .slice A0 n0 c0), (1, .bool a1), (7, .int .i64 (a0.length : Int)), (8, .int .i64 s)] ∧ SH r (L) w) ⟨hA.sub _ rfl, hS⟩ ?_
 intro N277 s277 o277 hF N277_ T277_ ac w hLab
 obtain ⟨x262, rfl⟩ : ∃ q, q = s277 := ⟨_, rfl⟩
 replace hF : slices_Index_bool_bool_l1 a0 a1 x262 = some o277 := hF
 unfold slices_Index_bool_bool_l1 at hF
 try dsimp only at hLab
 obtain ⟨hA, hS⟩ := hLab
 refine ws fun K279 hK279 => ?_
 refine x_v hA (r_ltI rfl (hA.ev rfl) (hA.ev rfl)) rfl fun ac hA => ?_
 refine wn (hK279 _ _ ?_)
 refine wp_seq_k fun K280 hK280 => ?_
 refine c_if hA rfl (fun hb281 => ?_) fun hb281 => ?_
 ·replace hF := ift hb281 hF
  refine wp_skip ?_
  refine hK280 _ _ ?_
  refine wp_seq_k fun K282 hK282 => ?_
  refine wp_block_k fun Kx283 hKx283 => ?_
  refine ws fun K284 hK284 => ?_
  refine x_m hA rfl fun ac hA => ?_
  refine x_m hA rfl fun ac hA => ?_
  refine wn (hK284 _ _ ?_)
  refine ws fun K285 hK285 => ?_
  refine x_m hA rfl fun ac hA => ?_
  refine x_m hA rfl fun ac hA => ?_
  refine x_m hA rfl fun ac hA => ?_
  obtain ⟨x286, h287, hF⟩ := bnd hF
  refine x_ia Tryz.underlying90 sz4 (hS.rdl 0 ha0 rfl) h287 hA (fun ac hA => ?_) rfl rfl rfl rfl rfl rfl
  obtain ⟨cs, hV, hc288⟩ := el (hS.rdl 0 ha0 rfl) h287
  obtain rfl := hV
  refine x_ld Tryz.underlying4 (hc288 0 _ rfl) hA (fun ac hA => ?_) rfl rfl rfl rfl rfl rfl
  refine x_v hA (r_eqB Tryz.underlying4 rfl (hA.ev rfl) (hA.ev rfl)) rfl fun ac hA => ?_
  refine wn (hK285 _ _ ?_)
  refine c_if hA rfl (fun hb289 => ?_) fun hb289 => ?_
  ·replace hF := ift hb289 hF
   refine ws fun K290 hK290 => ?_
   refine x_m hA rfl fun ac hA => ?_
   refine x_m hA rfl fun ac hA => ?_
   refine wn (hK290 _ _ ?_)
   refine wp_ret ?_
   cases hF
   have ht := T277_ _ rfl
   subst ht
   replace hF := hR277
   replace hF : some x262 = some y := hF
   cases hF
   refine hQ _ _ ?_
   refine lv Tryz.results76 hA rfl ?_
   exact ⟨rfl, hS⟩
  replace hF := iff' hb289 hF
  refine wp_skip ?_
  refine hKx283 _ _ ?_
  refine hK282 _ _ ?_
  refine wp_reg ?_
  obtain ⟨x291, h292, hF⟩ := ltt_ hF
  refine x_v (v := .int .i64 x291) hA (rv_i h292 (r_add rfl (hA.ev rfl) (hA.ev rfl))) rfl fun ac hA => ?_
  refine x_m hA rfl fun ac hA => ?_
  refine wpList_nil ?_
  cases hF
  exact ⟨_, N277_ _ rfl, hA.sub _ rfl, hS⟩
 replace hF := iff' hb281 hF
 refine wp_exit ?_
 cases hF
 exact hx277_0 (T277_ _ rfl) ac w (hA.sub _ rfl) hS
theorem F_slices_Contains_bool_bool {r : World} {L : List HP} {w : World} (a0 : (List Bool)) (a1 : Bool) (A0 : Option Addr) (n0 : Nat) (c0 : Nat) {y : (Bool)} (hF : slices_Contains_bool_bool a0 a1 = some y) (ha0 : RdL L kB A0 n0 c0 a0) (hS : SH r (L) w) :
  Ret Tryz.prog 53 #[.slice A0 n0 c0, .bool a1] w fun v w' => v = .bool y ∧ SH r (L) w' := by
 refine enter Tryz.func53 rfl Tryz.ntmps53 [(0, .slice A0 n0 c0), (1, .bool a1)] rfl (by simp) ?_
 intro ac hA Qf hQ hQn
 unfold slices_Contains_bool_bool at hF
 refine ws fun K101 hK101 => ?_
 refine x_m hA rfl fun ac hA => ?_
 refine wn (hK101 _ _ ?_)
 refine ws fun K102 hK102 => ?_
 refine x_m hA rfl fun ac hA => ?_
 refine x_m hA rfl fun ac hA => ?_
 obtain ⟨y103, h104, hF⟩ := bnd hF
 refine x_call en76 hA (F_slices_Index_bool_bool (L := L) a0 a1 A0 n0 c0 h104 (RdL.sfx 0 rfl ha0) hS) (fun v ac w hR hA => ?_) rfl rfl rfl rfl rfl
 obtain ⟨rfl, hS⟩ := hR
 refine x_v hA (r_geI rfl (hA.ev rfl) (hA.ev rfl)) rfl fun ac hA => ?_
 refine x_m hA rfl fun ac hA => ?_
 refine wn (hK102 _ _ ?_)
 refine wp_ret ?_
 cases hF
 refine hQ _ _ ?_
 refine lv Tryz.results53 hA rfl ?_
 exact ⟨rfl, hS⟩
theorem F_column_ReadTexts_1 {r : World} {L : List HP} {w : World} {Z : Nat → Prop} {wz : World} (a0 : S86) (a1 : (List (List UInt8))) (g0 : Nat) (g1 : Nat) {y : ((S86 × (List (List UInt8))) ⊕ (S86 × (List (List UInt8))))} (hF : column_ReadTexts_1 a0 a1 = some y) (qz : Nat) (hZ : L[qz]? = some (zone Z wz)) (hS : SH r (obj86 Z wz g0 a0 :: obj40 g1 a1 :: L) w) :
  RetS Tryz.prog 52 #[.pointer (some ⟨g0, 0, none⟩), .pointer (some ⟨g1, 0, none⟩)] w badC y (fun y v w' => v = .tuple #[] ∧ SH r (obj86 Z wz g0 y.1 :: obj40 g1 y.2 :: L) w') (fun y w' => SH r (obj86 Z wz g0 y.1 :: obj40 g1 y.2 :: L) w') := by
 refine enterS Tryz.func52 rfl Tryz.ntmps52 [(0, .pointer (some ⟨g0, 0, none⟩)), (1, .pointer (some ⟨g1, 0, none⟩))] rfl (by simp) ?_
 intro ac hA Qf hQ hQn hQp
 unfold column_ReadTexts_1 at hF
 obtain ⟨A101, n102, c103, hS⟩ := obj86_open hS
 replace hS := hS.pk 1
 have hQ0 := SH.unpure hS
 clear hS
 obtain ⟨h104, hS⟩ := hQ0
 replace hS := hS.pk 1
 obtain ⟨A105, n106, c107, hS⟩ := obj40_open hS
 refine ws fun K108 hK108 => ?_
 refine x_m hA rfl fun ac hA => ?_
 refine wn (hK108 _ _ ?_)
 refine wp_seq_k fun K109 hK109 => ?_
 refine ws fun K720 hK720 => ?_
 refine x_m hA rfl fun ac hA => ?_
 replace hS := SH.pure_ h104 hS
 replace hS := hS.pk 3
 replace hS := obj86_mk (x := a0) hS
 obtain ⟨y721, h722, hF⟩ := bnd hF
 rcases y721 with y721 | y721
 rotate_left
 ·replace hF := sum_r hF
  refine x_callp (vs := #[.pointer (some ⟨g0, 0, none⟩), .int .u64 4096]) en48 hA (RetS.rf (F_column_Reader_Uint (L := blk g1 40 [.slice A105 n106 c107] :: own kS 9 A105 n106 c107 a1 :: L) a0 4096 g0 h722 (qz + 2) hZ hS)) (fun w hR => ?_) rfl rfl rfl rfl rfl
  replace hS := hR
  obtain ⟨A723, n724, c725, hS⟩ := obj86_open hS
  replace hS := hS.pk 1
  have hQ0 := SH.unpure hS
  clear hS
  obtain ⟨h726, hS⟩ := hQ0
  replace hS := SH.pure_ h726 hS
  replace hS := hS.pk 1
  replace hS := obj86_mk (x := y721) hS
  replace hS := hS.pk 2
  replace hS := hS.pk 2
  replace hS := obj40_mk (x := a1) hS
  replace hS := hS.pk 1
  cases hF
  exact hQp _ rfl _ _ hA.defers hS
 replace hF := sum_l hF
 refine x_callw (vs := #[.pointer (some ⟨g0, 0, none⟩), .int .u64 4096]) en48 hA (RetS.lf (F_column_Reader_Uint (L := blk g1 40 [.slice A105 n106 c107] :: own kS 9 A105 n106 c107 a1 :: L) a0 4096 g0 h722 (qz + 2) hZ hS)) (fun v ac w hR hA => ?_) rfl rfl rfl rfl rfl rfl rfl
 obtain ⟨rfl, hS⟩ := hR
 obtain ⟨A727, n728, c729, hS⟩ := obj86_open hS
 replace hS := hS.pk 1
 have hQ0 := SH.unpure hS
 clear hS
 obtain ⟨h730, hS⟩ := hQ0
 refine x_m hA rfl fun ac hA => ?_
 refine wn (hK720 _ _ ?_)
 refine wp_block_k fun Kx731 hKx731 => ?_
 have hb1 : ∀ (l1026 : (List Int)) (l1031 : (List (List UInt8))), column_ReadTexts_1_b1 a1 l1026 l1031 = some y → ∀ (A1027 : Option Addr) (n1028 : Nat) (c1029 : Nat) (A1032 : Option Addr) (n1033 : Nat) (c1034 : Nat) (h1030 : Imm Z wz (kI .u8) A1027 n1028 c1029 l1026) (ac : Act) (w : World), FR 70 [] ac [(0, .pointer (some ⟨g0, 0, none⟩)), (1, .pointer (some ⟨g1, 0, none⟩)), (3, .slice A1032 n1033 c1034)] → SH r (blk g0 86 [.slice A1027 n1028 c1029] :: blk g1 40 [.slice A105 n106 c107] :: own kS 9 A105 n106 c107 a1 :: own kS 9 A1032 n1033 c1034 l1031 :: L) w → Kx731 ac w := by
  intro l1026 l1031 hF A1027 n1028 c1029 A1032 n1033 c1034 h1030 ac w hA hS
  unfold column_ReadTexts_1_b1 at hF
  refine hKx731 _ _ ?_
  refine hK109 _ _ ?_
  refine ws fun K1035 hK1035 => ?_
  refine x_m hA rfl fun ac hA => ?_
  refine x_len Tryz.underlying40 (hS.rd 3 rfl).2.1 hA (fun ac hA => ?_) rfl rfl rfl rfl rfl
  obtain ⟨h1036, hF⟩ := chk_some hF
  refine x_mks (d := kB) (bytes := 1) false inf4 rfl Tryz.underlying90 h1036 hA hS (fun g1037 ac w hS hA => ?_) rfl rfl rfl rfl rfl rfl
  refine x_m hA rfl fun ac hA => ?_
  refine wn (hK1035 _ _ ?_)
  refine wp_seq_k fun K1038 hK1038 => ?_
  refine ws fun K1579 hK1579 => ?_
  refine x_m hA rfl fun ac hA => ?_
  replace hS := SH.pure_ h1030 hS
  replace hS := hS.pk 2
  replace hS := obj86_mk (x := (⟨l1026⟩ : S86)) hS
  obtain ⟨y1580, h1581, hF⟩ := bnd hF
  rcases y1580 with y1580 | y1580
  rotate_left
  ·replace hF := sum_r hF
   refine x_callp (vs := #[.pointer (some ⟨g0, 0, none⟩)]) en51 hA (RetS.rf (F_column_ints (L := own kB 4 (some ⟨g1037, 0, none⟩) ((l1031.length : Int).toNat) ((l1031.length : Int).toNat) (List.replicate (l1031.length : Int).toNat (false : Bool)) :: blk g1 40 [.slice A105 n106 c107] :: own kS 9 A105 n106 c107 a1 :: own kS 9 A1032 n1033 c1034 l1031 :: L) (⟨l1026⟩ : S86) g0 h1581 (qz + 4) hZ hS)) (fun w hR => ?_) rfl rfl rfl rfl rfl
   replace hS := hR
   obtain ⟨A1582, n1583, c1584, hS⟩ := obj86_open hS
   replace hS := hS.pk 1
   have hQ0 := SH.unpure hS
   clear hS
   obtain ⟨h1585, hS⟩ := hQ0
   replace hS := SH.pure_ h1585 hS
   replace hS := hS.pk 1
   replace hS := obj86_mk (x := y1580) hS
   replace hS := hS.pk 3
   replace hS := hS.pk 3
   replace hS := obj40_mk (x := a1) hS
   replace hS := hS.drop 2
   replace hS := hS.drop 2
   replace hS := hS.pk 1
   cases hF
   exact hQp _ rfl _ _ hA.defers hS
  replace hF := sum_l hF
  refine x_callw (vs := #[.pointer (some ⟨g0, 0, none⟩)]) en51 hA (RetS.lf (F_column_ints (L := own kB 4 (some ⟨g1037, 0, none⟩) ((l1031.length : Int).toNat) ((l1031.length : Int).toNat) (List.replicate (l1031.length : Int).toNat (false : Bool)) :: blk g1 40 [.slice A105 n106 c107] :: own kS 9 A105 n106 c107 a1 :: own kS 9 A1032 n1033 c1034 l1031 :: L) (⟨l1026⟩ : S86) g0 h1581 (qz + 4) hZ hS)) (fun v ac w hR hA => ?_) rfl rfl rfl rfl rfl rfl rfl
  obtain ⟨B1586, m1587, d1588, rfl, hS⟩ := hR
  replace hS := hS.pk 1
  obtain ⟨A1589, n1590, c1591, hS⟩ := obj86_open hS
  replace hS := hS.pk 1
  have hQ0 := SH.unpure hS
  clear hS
  obtain ⟨h1592, hS⟩ := hQ0
  refine x_len Tryz.underlying39 (hS.rd 1 rfl).2.1 hA (fun ac hA => ?_) rfl rfl rfl rfl rfl
  refine x_m hA rfl fun ac hA => ?_
  refine wn (hK1579 _ _ ?_)
  refine wp_block_k fun Kx1593 hKx1593 => ?_
  have hb2 : ∀ (l1851 : (List Int)) (l1856 : (List (List UInt8))) (l1860 : (List Bool)), column_ReadTexts_1_b2 l1851 l1856 l1860 = some y → ∀ (A1852 : Option Addr) (n1853 : Nat) (c1854 : Nat) (A1857 : Option Addr) (n1858 : Nat) (c1859 : Nat) (h1855 : Imm Z wz (kI .u8) A1852 n1853 c1854 l1851) (ac : Act) (w : World), FR 70 [] ac [(0, .pointer (some ⟨g0, 0, none⟩)), (1, .pointer (some ⟨g1, 0, none⟩)), (5, .slice (some ⟨g1037, 0, none⟩) ((l1031.length : Int).toNat) ((l1031.length : Int).toNat))] → SH r (blk g0 86 [.slice A1852 n1853 c1854] :: blk g1 40 [.slice A1857 n1858 c1859] :: own kS 9 A1857 n1858 c1859 l1856 :: own kB 4 (some ⟨g1037, 0, none⟩) ((l1031.length : Int).toNat) ((l1031.length : Int).toNat) l1860 :: L) w → Kx1593 ac w := by
   intro l1851 l1856 l1860 hF A1852 n1853 c1854 A1857 n1858 c1859 h1855 ac w hA hS
   unfold column_ReadTexts_1_b2 at hF
   refine hKx1593 _ _ ?_
   refine hK1038 _ _ ?_
   refine wp_reg ?_
   refine x_m hA rfl fun ac hA => ?_
   refine x_m hA rfl fun ac hA => ?_
   obtain ⟨y1861, h1862, hF⟩ := bnd hF
   refine x_call en53 hA (F_slices_Contains_bool_bool (L := blk g0 86 [.slice A1852 n1853 c1854] :: blk g1 40 [.slice A1857 n1858 c1859] :: own kS 9 A1857 n1858 c1859 l1856 :: own kB 4 (some ⟨g1037, 0, none⟩) ((l1031.length : Int).toNat) ((l1031.length : Int).toNat) l1860 :: L) l1860 false (some ⟨g1037, 0, none⟩) ((l1031.length : Int).toNat) ((l1031.length : Int).toNat) h1862 (RdL.own 3 rfl (hS.dropN 0)) hS) (fun v ac w hR hA => ?_) rfl rfl rfl rfl rfl
   obtain ⟨rfl, hS⟩ := hR
   refine x_v hA (r_not rfl (hA.ev rfl)) rfl fun ac hA => ?_
   replace hS := SH.pure_ h1855 hS
   replace hS := hS.pk 1
   replace hS := obj86_mk (x := (⟨l1851⟩ : S86)) hS
   obtain ⟨y1863, h1864, hF⟩ := bnd hF
   rcases y1863 with y1863 | y1863
   rotate_left
   ·replace hF := sum_r hF
    refine x_callp (vs := #[.pointer (some ⟨g0, 0, none⟩), .bool (!y1861)]) en49 hA (RetS.rf (F_column_Reader_Check (L := blk g1 40 [.slice A1857 n1858 c1859] :: own kS 9 A1857 n1858 c1859 l1856 :: own kB 4 (some ⟨g1037, 0, none⟩) ((l1031.length : Int).toNat) ((l1031.length : Int).toNat) l1860 :: L) (⟨l1851⟩ : S86) (!y1861) g0 h1864 (qz + 3) hZ hS)) (fun w hR => ?_) rfl rfl rfl rfl rfl
    replace hS := hR
    obtain ⟨A1865, n1866, c1867, hS⟩ := obj86_open hS
    replace hS := hS.pk 1
    have hQ0 := SH.unpure hS
    clear hS
    obtain ⟨h1868, hS⟩ := hQ0
    replace hS := SH.pure_ h1868 hS
    replace hS := hS.pk 1
    replace hS := obj86_mk (x := y1863) hS
    replace hS := hS.pk 2
    replace hS := hS.pk 2
    replace hS := obj40_mk (x := l1856) hS
    replace hS := hS.drop 2
    replace hS := hS.pk 1
    cases hF
    exact hQp _ rfl _ _ hA.defers hS
   replace hF := sum_l hF
   refine x_callw (vs := #[.pointer (some ⟨g0, 0, none⟩), .bool (!y1861)]) en49 hA (RetS.lf (F_column_Reader_Check (L := blk g1 40 [.slice A1857 n1858 c1859] :: own kS 9 A1857 n1858 c1859 l1856 :: own kB 4 (some ⟨g1037, 0, none⟩) ((l1031.length : Int).toNat) ((l1031.length : Int).toNat) l1860 :: L) (⟨l1851⟩ : S86) (!y1861) g0 h1864 (qz + 3) hZ hS)) (fun v ac w hR hA => ?_) rfl rfl rfl rfl rfl rfl rfl
   obtain ⟨rfl, hS⟩ := hR
   obtain ⟨A1869, n1870, c1871, hS⟩ := obj86_open hS
   replace hS := hS.pk 1
   have hQ0 := SH.unpure hS
   clear hS
   obtain ⟨h1872, hS⟩ := hQ0
   refine wpList_nil ?_
   replace hS := SH.pure_ h1872 hS
   replace hS := hS.pk 1
   replace hS := obj86_mk (x := y1863) hS
   replace hS := hS.pk 2
   replace hS := hS.pk 2
   replace hS := obj40_mk (x := l1856) hS
   replace hS := hS.drop 2
   replace hS := hS.pk 1
   cases hF
   refine hQn _ rfl _ _ ?_
   refine lv0n Tryz.results52 hA ?_
   exact ⟨rfl, hS⟩
  obtain ⟨t2057, hl2057, hF⟩ := bnd hF
  have hR2057 := hF
  have hx2057_2 : ∀ (l2048 : (List Int)) (l2053 : (List (List UInt8))) (l2057 : (List Bool)), (.inl (l2048, l2053, l2057)) = t2057 → ∀ (A2049 : Option Addr) (n2050 : Nat) (c2051 : Nat) (A2054 : Option Addr) (n2055 : Nat) (c2056 : Nat) (h2052 : Imm Z wz (kI .u8) A2049 n2050 c2051 l2048) (ac : Act) (w : World), FR 70 [] ac [(0, .pointer (some ⟨g0, 0, none⟩)), (1, .pointer (some ⟨g1, 0, none⟩)), (5, .slice (some ⟨g1037, 0, none⟩) ((l1031.length : Int).toNat) ((l1031.length : Int).toNat))] → SH r (blk g0 86 [.slice A2049 n2050 c2051] :: blk g1 40 [.slice A2054 n2055 c2056] :: own kS 9 A2054 n2055 c2056 l2053 :: own kB 4 (some ⟨g1037, 0, none⟩) ((l1031.length : Int).toNat) ((l1031.length : Int).toNat) l2057 :: L) w → Kx1593 ac w := by
   intro l2048 l2053 l2057 ht A2049 n2050 c2051 A2054 n2055 c2056 h2052 ac w hA hS
   subst ht
   replace hF : column_ReadTexts_1_x1_2 l2048 l2053 l2057 = some y := hF
   unfold column_ReadTexts_1_x1_2 at hF
   exact hb2 l2048 l2053 l2057 hF A2049 n2050 c2051 A2054 n2055 c2056 h2052 ac w (hA.sub _ rfl) hS
  replace hS := hS.pk 1
  replace hS := hS.pk 2
  replace hS := hS.pk 5
  replace hS := hS.pk 5
  replace hS := hS.pk 5
  replace hS := hS.pk 5
  refine wp_loop_fn hl2057 (fun s ac w => ∃ (A1956 : Option Addr) (n1957 : Nat) (c1958 : Nat) (A1961 : Option Addr) (n1962 : Nat) (c1963 : Nat), Imm Z wz (kI .u8) A1956 n1957 c1958 s.1 ∧ FR 70 [] ac [(0, .pointer (some ⟨g0, 0, none⟩)), (1, .pointer (some ⟨g1, 0, none⟩)), (3, .slice A1032 n1033 c1034), (5, .slice (some ⟨g1037, 0, none⟩) ((l1031.length : Int).toNat) ((l1031.length : Int).toNat)), (38, .slice B1586 m1587 d1588), (39, .int .i64 (y1580.1.length : Int)), (40, .int .i64 s.2.2.2)] ∧ SH r (blk g0 86 [.slice A1956 n1957 c1958] :: blk g1 40 [.slice A1961 n1962 c1963] :: own kS 9 A1961 n1962 c1963 s.2.1 :: own kS 9 A1032 n1033 c1034 l1031 :: own kB 4 (some ⟨g1037, 0, none⟩) ((l1031.length : Int).toNat) ((l1031.length : Int).toNat) s.2.2.1 :: own (kI .i64) 2 B1586 m1587 d1588 y1580.1 :: L) w) ⟨A1589, n1590, c1591, A105, n106, c107, h1592, hA.sub _ rfl, hS⟩ ?_
  intro N2057 s2057 o2057 hF N2057_ T2057_ ac w hLab
  obtain ⟨l1955, l1960, l1964, x1965⟩ := s2057
  replace hF : column_ReadTexts_1_l1 l1031 y1580 l1955 l1960 l1964 x1965 = some o2057 := hF
  unfold column_ReadTexts_1_l1 at hF
  try dsimp only at hLab
  obtain ⟨A1956, n1957, c1958, A1961, n1962, c1963, h1959, hA, hS⟩ := hLab
  refine ws fun K2059 hK2059 => ?_
  refine x_v hA (r_ltI rfl (hA.ev rfl) (hA.ev rfl)) rfl fun ac hA => ?_
  refine wn (hK2059 _ _ ?_)
  refine wp_seq_k fun K2060 hK2060 => ?_
  refine c_if hA rfl (fun hb2061 => ?_) fun hb2061 => ?_
  ·replace hF := ift hb2061 hF
   refine wp_skip ?_
   refine hK2060 _ _ ?_
   refine wp_seq_k fun K2062 hK2062 => ?_
   refine wp_block_k fun Kx2063 hKx2063 => ?_
   refine ws fun K2064 hK2064 => ?_
   obtain ⟨x2065, h2066, hF⟩ := bnd hF
   refine x_ia Tryz.underlying39 sz2 (hS.rd 5 rfl) h2066 hA (fun ac hA => ?_) rfl rfl rfl rfl rfl rfl
   obtain ⟨cs, hV, hc2067⟩ := el (hS.rd 5 rfl) h2066
   obtain rfl := hV
   refine x_ld Tryz.underlying2 (hc2067 0 _ rfl) hA (fun ac hA => ?_) rfl rfl rfl rfl rfl rfl
   refine x_m hA rfl fun ac hA => ?_
   refine wn (hK2064 _ _ ?_)
   refine wp_seq_k fun K2068 hK2068 => ?_
   have hj1 : ∀ (l2090 : (List Int)), column_ReadTexts_1_j1 l1031 l1960 l1964 x1965 x2065 l2090 = some o2057 → ∀ (A2091 : Option Addr) (n2092 : Nat) (c2093 : Nat) (h2094 : Imm Z wz (kI .u8) A2091 n2092 c2093 l2090) (ac : Act) (w : World), FR 70 [] ac [(0, .pointer (some ⟨g0, 0, none⟩)), (1, .pointer (some ⟨g1, 0, none⟩)), (3, .slice A1032 n1033 c1034), (5, .slice (some ⟨g1037, 0, none⟩) ((l1031.length : Int).toNat) ((l1031.length : Int).toNat)), (7, .int .i64 x2065), (38, .slice B1586 m1587 d1588), (39, .int .i64 (y1580.1.length : Int)), (40, .int .i64 x1965)] → SH r (blk g0 86 [.slice A2091 n2092 c2093] :: blk g1 40 [.slice A1961 n1962 c1963] :: own kS 9 A1961 n1962 c1963 l1960 :: own kS 9 A1032 n1033 c1034 l1031 :: own kB 4 (some ⟨g1037, 0, none⟩) ((l1031.length : Int).toNat) ((l1031.length : Int).toNat) l1964 :: own (kI .i64) 2 B1586 m1587 d1588 y1580.1 :: L) w → K2068 ac w := by
    intro l2090 hF A2091 n2092 c2093 h2094 ac w hA hS
    unfold column_ReadTexts_1_j1 at hF
    refine hK2068 _ _ ?_
    refine ws fun K2095 hK2095 => ?_
    refine x_m hA rfl fun ac hA => ?_
    refine x_m hA rfl fun ac hA => ?_
    obtain ⟨x2096, h2097, hF⟩ := bnd hF
    refine x_ia Tryz.underlying90 sz4 (hS.rd 4 rfl) h2097 hA (fun ac hA => ?_) rfl rfl rfl rfl rfl rfl
    refine x_sto (z' := true) (off := 0) (vs := [.bool true]) 4 sz4 hA hS rfl (at_some h2097).2.2 (fun c h => by cases h; rfl) (fun  ac w hS hA => ?_) rfl rfl rfl rfl rfl rfl rfl rfl
    refine wn (hK2095 _ _ ?_)
    refine wp_draw [0, 0, 0, 6, 14, 30, 63, 127] [5, 6, 7] rfl hA hS (by kernel_rfl) (by kernel_rfl) (by kernel_rfl) (by kernel_rfl) fun w hS => ?_
    obtain ⟨x2098, h2099, hF⟩ := bnd hF
    obtain ⟨cs, hV, hc2100⟩ := el (hS.rd 4 rfl) h2099
    obtain rfl := hV
    refine ⟨[(0, .slice A1961 n1962 c1963), (1, .slice A1032 n1033 c1034), (2, .int .i64 x2065), (3, .pointer (some (ea A1032 (x2065.toNat * 1)))), (4, str x2098)], ?_⟩
    refine dEff [0, 1, 2, 3, 4] [5] (by kernel_rfl) ⟨pu rfl rfl [(1, .pointer (some ⟨g1, 0, none⟩))] (fun ac hA => y_ld Tryz.underlying40 (hS.cell 2 rfl 0 _ rfl) hA rfl rfl rfl) rfl rfl, pu rfl rfl [(3, .slice A1032 n1033 c1034)] (fun ac hA => y_move hA rfl rfl) rfl rfl, pu rfl rfl [(7, .int .i64 x2065)] (fun ac hA => y_move hA rfl rfl) rfl rfl, pu rfl rfl [(58, .slice A1032 n1033 c1034), (59, .int .i64 x2065)] (fun ac hA => y_ia Tryz.underlying40 sz9 (hS.rd 4 rfl) h2099 hA rfl rfl rfl) rfl rfl, pu rfl rfl [(60, .pointer (some (ea A1032 (x2065.toNat * 1))))] (fun ac hA => y_ld Tryz.underlying9 (hc2100 0 _ rfl) hA rfl rfl rfl) rfl rfl, trivial⟩ (by kernel_rfl) (by kernel_rfl) ⟨ef rfl [(61, str x2098)] (fun ac hA K hK => ?_) rfl rfl, trivial⟩
    refine z_bsl (d := kS) (e := 9) (ps := #[(0, str x2098)]) (cells := [str x2098]) (xs := [x2098]) (fun w => by kernel_rfl) rfl ⟨[str x2098], _, rfl, rfl, rfl⟩ hA hS (fun g2101 w hS => ?_) rfl rfl rfl
    refine hK _ [] _ rfl ?_
    refine dEff [0] [6] (by kernel_rfl) ⟨pu rfl rfl [(1, .pointer (some ⟨g1, 0, none⟩))] (fun ac hA => y_ld Tryz.underlying40 (hS.cell 3 rfl 0 _ rfl) hA rfl rfl rfl) rfl rfl, trivial⟩ (by kernel_rfl) (by kernel_rfl) ⟨ef rfl [(57, .slice A1961 n1962 c1963), (62, .slice (some ⟨g2101, 0, none⟩) 1 1)] (fun ac hA K hK => ?_) rfl rfl, trivial⟩
    obtain ⟨h2102, hF⟩ := chk_some hF
    have hr := hS.rd 0 rfl
    refine z_app 4 inf9 Tryz.underlying40 hA hS hr.1 hr.2.1 h2102 rfl (fun A2103 n2104 c2105 w hS => ?_) rfl rfl rfl rfl rfl rfl
    refine hK _ [] _ rfl ?_
    refine dEff [] [7] (by kernel_rfl) trivial (by kernel_rfl) (by kernel_rfl) ⟨ef rfl [(1, .pointer (some ⟨g1, 0, none⟩)), (63, .slice A2103 n2104 c2105)] (fun ac hA K hK => ?_) rfl rfl, trivial⟩
    refine z_stb 4 sz40 hA hS rfl (fun  w hS => ?_) rfl rfl rfl rfl rfl rfl
    refine hK _ [] _ rfl ?_
    refine dEnd [] (by kernel_rfl) trivial ⟨by kernel_rfl, by kernel_rfl⟩ [(0, .pointer (some ⟨g0, 0, none⟩)), (1, .pointer (some ⟨g1, 0, none⟩)), (3, .slice A1032 n1033 c1034), (5, .slice (some ⟨g1037, 0, none⟩) ((l1031.length : Int).toNat) ((l1031.length : Int).toNat)), (38, .slice B1586 m1587 d1588), (39, .int .i64 (y1580.1.length : Int)), (40, .int .i64 x1965)] rfl (fun ac hA => ?_)
    refine hKx2063 _ _ ?_
    refine hK2062 _ _ ?_
    refine wp_reg ?_
    obtain ⟨x2106, h2107, hF⟩ := ltt_ hF
    refine x_v (v := .int .i64 x2106) hA (rv_i h2107 (r_add rfl (hA.ev rfl) (hA.ev rfl))) rfl fun ac hA => ?_
    refine x_m hA rfl fun ac hA => ?_
    refine wpList_nil ?_
    replace hS := hS.drop 2
    replace hS := hS.pk 5
    replace hS := hS.pk 3
    replace hS := hS.pk 5
    replace hS := hS.pk 4
    replace hS := hS.pk 4
    replace hS := hS.pk 5
    cases hF
    exact ⟨_, N2057_ _ rfl, A2091, n2092, c2093, A2103, n2104, c2105, h2094, hA.sub _ rfl, hS⟩
   refine wp_reg ?_
   refine x_m hA rfl fun ac hA => ?_
   refine x_m hA rfl fun ac hA => ?_
   refine x_v hA (r_geI rfl (hA.ev rfl) (hA.ev rfl)) rfl fun ac hA => ?_
   refine x_m hA rfl fun ac hA => ?_
   refine bcase (b := decide (0 ≤ x2065)) (fun hb2108 => ?_) fun hb2108 => ?_
   ·replace hF := ift hb2108 hF
    refine x_on hb2108 hA ?_ rfl rfl rfl
    refine x_m hA rfl fun ac hA => ?_
    refine x_on hb2108 hA ?_ rfl rfl rfl
    refine x_m hA rfl fun ac hA => ?_
    refine x_on hb2108 hA ?_ rfl rfl rfl
    refine x_len Tryz.underlying40 (hS.rd 3 rfl).2.1 hA (fun ac hA => ?_) rfl rfl rfl rfl rfl
    refine x_on hb2108 hA ?_ rfl rfl rfl
    refine x_v hA (r_ltI rfl (hA.ev rfl) (hA.ev rfl)) rfl fun ac hA => ?_
    refine x_pickt hb2108 hA (fun ac hA => ?_) rfl rfl rfl rfl rfl rfl
    replace hS := SH.pure_ h1959 hS
    replace hS := hS.pk 1
    replace hS := obj86_mk (x := (⟨l1955⟩ : S86)) hS
    obtain ⟨y2109, h2110, hF⟩ := bnd hF
    rcases y2109 with y2109 | y2109
    rotate_left
    ·replace hF := sum_r hF
     refine x_callp (vs := #[.pointer (some ⟨g0, 0, none⟩), .bool (decide (x2065 < (l1031.length : Int)))]) en49 hA (RetS.rf (F_column_Reader_Check (L := blk g1 40 [.slice A1961 n1962 c1963] :: own kS 9 A1961 n1962 c1963 l1960 :: own kS 9 A1032 n1033 c1034 l1031 :: own kB 4 (some ⟨g1037, 0, none⟩) ((l1031.length : Int).toNat) ((l1031.length : Int).toNat) l1964 :: own (kI .i64) 2 B1586 m1587 d1588 y1580.1 :: L) (⟨l1955⟩ : S86) (decide (x2065 < (l1031.length : Int))) g0 h2110 (qz + 5) hZ hS)) (fun w hR => ?_) rfl rfl rfl rfl rfl
     replace hS := hR
     obtain ⟨A2111, n2112, c2113, hS⟩ := obj86_open hS
     replace hS := hS.pk 1
     have hQ0 := SH.unpure hS
     clear hS
     obtain ⟨h2114, hS⟩ := hQ0
     replace hS := SH.pure_ h2114 hS
     replace hS := hS.pk 1
     replace hS := obj86_mk (x := y2109) hS
     replace hS := hS.pk 2
     replace hS := hS.pk 2
     replace hS := obj40_mk (x := l1960) hS
     replace hS := hS.drop 2
     replace hS := hS.drop 2
     replace hS := hS.drop 2
     replace hS := hS.pk 1
     cases hF
     have ht := T2057_ _ rfl
     subst ht
     replace hF := hR2057
     replace hF : some (.inr (y2109, l1960)) = some y := hF
     cases hF
     exact hQp _ rfl _ _ hA.defers hS
    replace hF := sum_l hF
    refine x_callw (vs := #[.pointer (some ⟨g0, 0, none⟩), .bool (decide (x2065 < (l1031.length : Int)))]) en49 hA (RetS.lf (F_column_Reader_Check (L := blk g1 40 [.slice A1961 n1962 c1963] :: own kS 9 A1961 n1962 c1963 l1960 :: own kS 9 A1032 n1033 c1034 l1031 :: own kB 4 (some ⟨g1037, 0, none⟩) ((l1031.length : Int).toNat) ((l1031.length : Int).toNat) l1964 :: own (kI .i64) 2 B1586 m1587 d1588 y1580.1 :: L) (⟨l1955⟩ : S86) (decide (x2065 < (l1031.length : Int))) g0 h2110 (qz + 5) hZ hS)) (fun v ac w hR hA => ?_) rfl rfl rfl rfl rfl rfl rfl
    obtain ⟨rfl, hS⟩ := hR
    obtain ⟨A2115, n2116, c2117, hS⟩ := obj86_open hS
    replace hS := hS.pk 1
    have hQ0 := SH.unpure hS
    clear hS
    obtain ⟨h2118, hS⟩ := hQ0
    refine wpList_nil ?_
    exact hj1 y2109.f0 hF A2115 n2116 c2117 h2118 ac w (hA.sub _ rfl) hS
   replace hF := iff' hb2108 hF
   refine x_off hb2108 hA (fun ac hA => ?_) rfl rfl rfl rfl rfl
   refine x_off hb2108 hA (fun ac hA => ?_) rfl rfl rfl rfl rfl
   refine x_off hb2108 hA (fun ac hA => ?_) rfl rfl rfl rfl rfl
   refine x_off hb2108 hA (fun ac hA => ?_) rfl rfl rfl rfl rfl
   refine x_pickf hb2108 hA (fun ac hA => ?_) rfl rfl rfl rfl rfl rfl
   replace hS := SH.pure_ h1959 hS
   replace hS := hS.pk 1
   replace hS := obj86_mk (x := (⟨l1955⟩ : S86)) hS
   obtain ⟨y2119, h2120, hF⟩ := bnd hF
   rcases y2119 with y2119 | y2119
   rotate_left
   ·replace hF := sum_r hF
    refine x_callp (vs := #[.pointer (some ⟨g0, 0, none⟩), .bool false]) en49 hA (RetS.rf (F_column_Reader_Check (L := blk g1 40 [.slice A1961 n1962 c1963] :: own kS 9 A1961 n1962 c1963 l1960 :: own kS 9 A1032 n1033 c1034 l1031 :: own kB 4 (some ⟨g1037, 0, none⟩) ((l1031.length : Int).toNat) ((l1031.length : Int).toNat) l1964 :: own (kI .i64) 2 B1586 m1587 d1588 y1580.1 :: L) (⟨l1955⟩ : S86) false g0 h2120 (qz + 5) hZ hS)) (fun w hR => ?_) rfl rfl rfl rfl rfl
    replace hS := hR
    obtain ⟨A2121, n2122, c2123, hS⟩ := obj86_open hS
    replace hS := hS.pk 1
    have hQ0 := SH.unpure hS
    clear hS
    obtain ⟨h2124, hS⟩ := hQ0
    replace hS := SH.pure_ h2124 hS
    replace hS := hS.pk 1
    replace hS := obj86_mk (x := y2119) hS
    replace hS := hS.pk 2
    replace hS := hS.pk 2
    replace hS := obj40_mk (x := l1960) hS
    replace hS := hS.drop 2
    replace hS := hS.drop 2
    replace hS := hS.drop 2
    replace hS := hS.pk 1
    cases hF
    have ht := T2057_ _ rfl
    subst ht
    replace hF := hR2057
    replace hF : some (.inr (y2119, l1960)) = some y := hF
    cases hF
    exact hQp _ rfl _ _ hA.defers hS
   replace hF := sum_l hF
   refine x_callw (vs := #[.pointer (some ⟨g0, 0, none⟩), .bool false]) en49 hA (RetS.lf (F_column_Reader_Check (L := blk g1 40 [.slice A1961 n1962 c1963] :: own kS 9 A1961 n1962 c1963 l1960 :: own kS 9 A1032 n1033 c1034 l1031 :: own kB 4 (some ⟨g1037, 0, none⟩) ((l1031.length : Int).toNat) ((l1031.length : Int).toNat) l1964 :: own (kI .i64) 2 B1586 m1587 d1588 y1580.1 :: L) (⟨l1955⟩ : S86) false g0 h2120 (qz + 5) hZ hS)) (fun v ac w hR hA => ?_) rfl rfl rfl rfl rfl rfl rfl
   obtain ⟨rfl, hS⟩ := hR
   obtain ⟨A2125, n2126, c2127, hS⟩ := obj86_open hS
   replace hS := hS.pk 1
   have hQ0 := SH.unpure hS
   clear hS
   obtain ⟨h2128, hS⟩ := hQ0
   refine wpList_nil ?_
   exact hj1 y2119.f0 hF A2125 n2126 c2127 h2128 ac w (hA.sub _ rfl) hS
  replace hF := iff' hb2061 hF
  refine wp_exit ?_
  replace hS := hS.drop 3
  replace hS := hS.drop 4
  cases hF
  exact hx2057_2 l1955 l1960 l1964 (T2057_ _ rfl) A1956 n1957 c1958 A1961 n1962 c1963 h1959 ac w (hA.sub _ rfl) hS
 obtain ⟨t2339, hl2339, hF⟩ := bnd hF
 have hR2339 := hF
 have hx2339_0 : ∀ (l2331 : (List Int)) (l2336 : (List (List UInt8))), (.inl (l2331, l2336)) = t2339 → ∀ (A2332 : Option Addr) (n2333 : Nat) (c2334 : Nat) (A2337 : Option Addr) (n2338 : Nat) (c2339 : Nat) (h2335 : Imm Z wz (kI .u8) A2332 n2333 c2334 l2331) (ac : Act) (w : World), FR 70 [] ac [(0, .pointer (some ⟨g0, 0, none⟩)), (1, .pointer (some ⟨g1, 0, none⟩)), (3, .slice A2337 n2338 c2339)] → SH r (blk g0 86 [.slice A2332 n2333 c2334] :: blk g1 40 [.slice A105 n106 c107] :: own kS 9 A105 n106 c107 a1 :: own kS 9 A2337 n2338 c2339 l2336 :: L) w → Kx731 ac w := by
  intro l2331 l2336 ht A2332 n2333 c2334 A2337 n2338 c2339 h2335 ac w hA hS
  subst ht
  replace hF : column_ReadTexts_1_x2_0 a1 l2331 l2336 = some y := hF
  unfold column_ReadTexts_1_x2_0 at hF
  exact hb1 l2331 l2336 hF A2332 n2333 c2334 A2337 n2338 c2339 h2335 ac w (hA.sub _ rfl) hS
 replace hS := SH.nil_own (d := kS) (e := 9) hS
 replace hS := hS.pk 3
 replace hS := hS.pk 3
 replace hS := hS.pk 3
 refine wp_loop_fn hl2339 (fun s ac w => ∃ (A2230 : Option Addr) (n2231 : Nat) (c2232 : Nat) (A2235 : Option Addr) (n2236 : Nat) (c2237 : Nat), Imm Z wz (kI .u8) A2230 n2231 c2232 s.1 ∧ FR 70 [] ac [(0, .pointer (some ⟨g0, 0, none⟩)), (1, .pointer (some ⟨g1, 0, none⟩)), (3, .slice A2235 n2236 c2237), (9, .int .u64 y721.1), (10, .int .u64 s.2.2)] ∧ SH r (blk g0 86 [.slice A2230 n2231 c2232] :: blk g1 40 [.slice A105 n106 c107] :: own kS 9 A105 n106 c107 a1 :: own kS 9 A2235 n2236 c2237 s.2.1 :: L) w) ⟨A727, n728, c729, none, 0, 0, h730, hA.sub _ rfl, hS⟩ ?_
 intro N2339 s2339 o2339 hF N2339_ T2339_ ac w hLab
 obtain ⟨l2229, l2234, x2238⟩ := s2339
 replace hF : column_ReadTexts_1_l2 a1 y721 l2229 l2234 x2238 = some o2339 := hF
 unfold column_ReadTexts_1_l2 at hF
 try dsimp only at hLab
 obtain ⟨A2230, n2231, c2232, A2235, n2236, c2237, h2233, hA, hS⟩ := hLab
 refine ws fun K2341 hK2341 => ?_
 refine x_v hA (r_ltI rfl (hA.ev rfl) (hA.ev rfl)) rfl fun ac hA => ?_
 refine wn (hK2341 _ _ ?_)
 refine wp_seq_k fun K2342 hK2342 => ?_
 refine c_if hA rfl (fun hb2343 => ?_) fun hb2343 => ?_
 ·replace hF := ift hb2343 hF
  refine wp_skip ?_
  refine hK2342 _ _ ?_
  refine wp_seq_k fun K2344 hK2344 => ?_
  refine wp_block_k fun Kx2345 hKx2345 => ?_
  refine ws fun K2346 hK2346 => ?_
  refine x_m hA rfl fun ac hA => ?_
  replace hS := SH.pure_ h2233 hS
  replace hS := hS.pk 1
  replace hS := obj86_mk (x := (⟨l2229⟩ : S86)) hS
  obtain ⟨y2347, h2348, hF⟩ := bnd hF
  rcases y2347 with y2347 | y2347
  rotate_left
  ·replace hF := sum_r hF
   refine x_callp (vs := #[.pointer (some ⟨g0, 0, none⟩), .int .i64 32]) en20 hA (RetS.rf (F_column_Reader_Text (L := blk g1 40 [.slice A105 n106 c107] :: own kS 9 A105 n106 c107 a1 :: own kS 9 A2235 n2236 c2237 l2234 :: L) (⟨l2229⟩ : S86) 32 g0 h2348 (qz + 3) hZ hS)) (fun w hR => ?_) rfl rfl rfl rfl rfl
   replace hS := hR
   obtain ⟨A2349, n2350, c2351, hS⟩ := obj86_open hS
   replace hS := hS.pk 1
   have hQ0 := SH.unpure hS
   clear hS
   obtain ⟨h2352, hS⟩ := hQ0
   replace hS := SH.pure_ h2352 hS
   replace hS := hS.pk 1
   replace hS := obj86_mk (x := y2347) hS
   replace hS := hS.pk 2
   replace hS := hS.pk 2
   replace hS := obj40_mk (x := a1) hS
   replace hS := hS.drop 2
   replace hS := hS.pk 1
   cases hF
   have ht := T2339_ _ rfl
   subst ht
   replace hF := hR2339
   replace hF : some (.inr (y2347, a1)) = some y := hF
   cases hF
   exact hQp _ rfl _ _ hA.defers hS
  replace hF := sum_l hF
  refine x_callw (vs := #[.pointer (some ⟨g0, 0, none⟩), .int .i64 32]) en20 hA (RetS.lf (F_column_Reader_Text (L := blk g1 40 [.slice A105 n106 c107] :: own kS 9 A105 n106 c107 a1 :: own kS 9 A2235 n2236 c2237 l2234 :: L) (⟨l2229⟩ : S86) 32 g0 h2348 (qz + 3) hZ hS)) (fun v ac w hR hA => ?_) rfl rfl rfl rfl rfl rfl rfl
  obtain ⟨rfl, hS⟩ := hR
  obtain ⟨A2353, n2354, c2355, hS⟩ := obj86_open hS
  replace hS := hS.pk 1
  have hQ0 := SH.unpure hS
  clear hS
  obtain ⟨h2356, hS⟩ := hQ0
  refine x_m hA rfl fun ac hA => ?_
  refine wn (hK2346 _ _ ?_)
  refine wp_seq_k fun K2357 hK2357 => ?_
  have hj2 : ∀ (l2384 : (List Int)), column_ReadTexts_1_j2 l2234 x2238 y2347 l2384 = some o2339 → ∀ (A2385 : Option Addr) (n2386 : Nat) (c2387 : Nat) (h2388 : Imm Z wz (kI .u8) A2385 n2386 c2387 l2384) (ac : Act) (w : World), FR 70 [] ac [(0, .pointer (some ⟨g0, 0, none⟩)), (1, .pointer (some ⟨g1, 0, none⟩)), (3, .slice A2235 n2236 c2237), (4, str y2347.1), (9, .int .u64 y721.1), (10, .int .u64 x2238)] → SH r (blk g0 86 [.slice A2385 n2386 c2387] :: blk g1 40 [.slice A105 n106 c107] :: own kS 9 A105 n106 c107 a1 :: own kS 9 A2235 n2236 c2237 l2234 :: L) w → K2357 ac w := by
   intro l2384 hF A2385 n2386 c2387 h2388 ac w hA hS
   unfold column_ReadTexts_1_j2 at hF
   refine hK2357 _ _ ?_
   refine wp_reg ?_
   refine x_m hA rfl fun ac hA => ?_
   refine x_m hA rfl fun ac hA => ?_
   refine x_bsl (d := kS) (e := 9) (ps := #[(0, str y2347.1)]) (cells := [str y2347.1]) (xs := [y2347.1]) (fun w => by kernel_rfl) rfl ⟨[str y2347.1], _, rfl, rfl, rfl⟩ hA hS (fun g2389 ac w hS hA => ?_) rfl rfl rfl rfl rfl rfl
   obtain ⟨h2390, hF⟩ := chk_some hF
   have hr := hS.rd 0 rfl
   refine x_app 4 inf9 Tryz.underlying40 hA hS hr.1 hr.2.1 h2390 rfl (fun A2391 n2392 c2393 ac w hS hA => ?_) rfl rfl rfl rfl rfl rfl rfl rfl rfl
   refine x_m hA rfl fun ac hA => ?_
   refine wpList_nil ?_
   refine hKx2345 _ _ ?_
   refine hK2344 _ _ ?_
   refine wp_reg ?_
   obtain ⟨x2394, h2395, hF⟩ := ltt_ hF
   refine x_v (v := .int .u64 x2394) hA (rv_i h2395 (r_add rfl (hA.ev rfl) (hA.ev rfl))) rfl fun ac hA => ?_
   refine x_m hA rfl fun ac hA => ?_
   refine wpList_nil ?_
   replace hS := hS.drop 1
   replace hS := hS.pk 3
   replace hS := hS.pk 3
   replace hS := hS.pk 3
   cases hF
   exact ⟨_, N2339_ _ rfl, A2385, n2386, c2387, A2391, n2392, c2393, h2388, hA.sub _ rfl, hS⟩
  refine wp_reg ?_
  refine x_m hA rfl fun ac hA => ?_
  refine x_m hA rfl fun ac hA => ?_
  refine x_len Tryz.underlying40 (hS.rd 3 rfl).2.1 hA (fun ac hA => ?_) rfl rfl rfl rfl rfl
  refine x_v hA (r_eqI rfl (hA.ev rfl) (hA.ev rfl)) rfl fun ac hA => ?_
  refine x_m hA rfl fun ac hA => ?_
  refine bcase (b := (l2234.length : Int) == 0) (fun hb2396 => ?_) fun hb2396 => ?_
  ·replace hF := ift hb2396 hF
   refine x_off hb2396 hA (fun ac hA => ?_) rfl rfl rfl rfl rfl
   refine x_off hb2396 hA (fun ac hA => ?_) rfl rfl rfl rfl rfl
   refine x_off hb2396 hA (fun ac hA => ?_) rfl rfl rfl rfl rfl
   refine x_off hb2396 hA (fun ac hA => ?_) rfl rfl rfl rfl rfl
   refine x_off hb2396 hA (fun ac hA => ?_) rfl rfl rfl rfl rfl
   refine x_off hb2396 hA (fun ac hA => ?_) rfl rfl rfl rfl rfl
   refine x_off hb2396 hA (fun ac hA => ?_) rfl rfl rfl rfl rfl
   refine x_off hb2396 hA (fun ac hA => ?_) rfl rfl rfl rfl rfl
   refine x_pickt hb2396 hA (fun ac hA => ?_) rfl rfl rfl rfl rfl rfl
   replace hS := SH.pure_ h2356 hS
   replace hS := hS.pk 1
   replace hS := obj86_mk (x := y2347.2) hS
   obtain ⟨y2397, h2398, hF⟩ := bnd hF
   rcases y2397 with y2397 | y2397
   rotate_left
   ·replace hF := sum_r hF
    refine x_callp (vs := #[.pointer (some ⟨g0, 0, none⟩), .bool true]) en49 hA (RetS.rf (F_column_Reader_Check (L := blk g1 40 [.slice A105 n106 c107] :: own kS 9 A105 n106 c107 a1 :: own kS 9 A2235 n2236 c2237 l2234 :: L) y2347.2 true g0 h2398 (qz + 3) hZ hS)) (fun w hR => ?_) rfl rfl rfl rfl rfl
    replace hS := hR
    obtain ⟨A2399, n2400, c2401, hS⟩ := obj86_open hS
    replace hS := hS.pk 1
    have hQ0 := SH.unpure hS
    clear hS
    obtain ⟨h2402, hS⟩ := hQ0
    replace hS := SH.pure_ h2402 hS
    replace hS := hS.pk 1
    replace hS := obj86_mk (x := y2397) hS
    replace hS := hS.pk 2
    replace hS := hS.pk 2
    replace hS := obj40_mk (x := a1) hS
    replace hS := hS.drop 2
    replace hS := hS.pk 1
    cases hF
    have ht := T2339_ _ rfl
    subst ht
    replace hF := hR2339
    replace hF : some (.inr (y2397, a1)) = some y := hF
    cases hF
    exact hQp _ rfl _ _ hA.defers hS
   replace hF := sum_l hF
   refine x_callw (vs := #[.pointer (some ⟨g0, 0, none⟩), .bool true]) en49 hA (RetS.lf (F_column_Reader_Check (L := blk g1 40 [.slice A105 n106 c107] :: own kS 9 A105 n106 c107 a1 :: own kS 9 A2235 n2236 c2237 l2234 :: L) y2347.2 true g0 h2398 (qz + 3) hZ hS)) (fun v ac w hR hA => ?_) rfl rfl rfl rfl rfl rfl rfl
   obtain ⟨rfl, hS⟩ := hR
   obtain ⟨A2403, n2404, c2405, hS⟩ := obj86_open hS
   replace hS := hS.pk 1
   have hQ0 := SH.unpure hS
   clear hS
   obtain ⟨h2406, hS⟩ := hQ0
   refine wpList_nil ?_
   exact hj2 y2397.f0 hF A2403 n2404 c2405 h2406 ac w (hA.sub _ rfl) hS
  replace hF := iff' hb2396 hF
  refine x_on hb2396 hA ?_ rfl rfl rfl
  refine x_m hA rfl fun ac hA => ?_
  refine x_on hb2396 hA ?_ rfl rfl rfl
  refine x_m hA rfl fun ac hA => ?_
  refine x_on hb2396 hA ?_ rfl rfl rfl
  refine x_len Tryz.underlying40 (hS.rd 3 rfl).2.1 hA (fun ac hA => ?_) rfl rfl rfl rfl rfl
  refine x_on hb2396 hA ?_ rfl rfl rfl
  obtain ⟨x2407, h2408, hF⟩ := ltt_ hF
  refine x_v (v := .int .i64 x2407) hA (rv_i h2408 (r_sub rfl (hA.ev rfl) (hA.ev rfl))) rfl fun ac hA => ?_
  refine x_on hb2396 hA ?_ rfl rfl rfl
  obtain ⟨x2409, h2410, hF⟩ := bnd hF
  refine x_ia Tryz.underlying40 sz9 (hS.rd 3 rfl) h2410 hA (fun ac hA => ?_) rfl rfl rfl rfl rfl rfl
  refine x_on hb2396 hA ?_ rfl rfl rfl
  obtain ⟨cs, hV, hc2411⟩ := el (hS.rd 3 rfl) h2410
  obtain rfl := hV
  refine x_ld Tryz.underlying9 (hc2411 0 _ rfl) hA (fun ac hA => ?_) rfl rfl rfl rfl rfl rfl
  refine x_on hb2396 hA ?_ rfl rfl rfl
  refine x_m hA rfl fun ac hA => ?_
  refine x_on hb2396 hA ?_ rfl rfl rfl
  refine x_v hA (r_ltS rfl (hA.ev rfl) (hA.ev rfl)) rfl fun ac hA => ?_
  refine x_pickf hb2396 hA (fun ac hA => ?_) rfl rfl rfl rfl rfl rfl
  replace hS := SH.pure_ h2356 hS
  replace hS := hS.pk 1
  replace hS := obj86_mk (x := y2347.2) hS
  obtain ⟨y2412, h2413, hF⟩ := bnd hF
  rcases y2412 with y2412 | y2412
  rotate_left
  ·replace hF := sum_r hF
   refine x_callp (vs := #[.pointer (some ⟨g0, 0, none⟩), .bool (Op.bytesLess x2409 y2347.1)]) en49 hA (RetS.rf (F_column_Reader_Check (L := blk g1 40 [.slice A105 n106 c107] :: own kS 9 A105 n106 c107 a1 :: own kS 9 A2235 n2236 c2237 l2234 :: L) y2347.2 (Op.bytesLess x2409 y2347.1) g0 h2413 (qz + 3) hZ hS)) (fun w hR => ?_) rfl rfl rfl rfl rfl
   replace hS := hR
   obtain ⟨A2414, n2415, c2416, hS⟩ := obj86_open hS
   replace hS := hS.pk 1
   have hQ0 := SH.unpure hS
   clear hS
   obtain ⟨h2417, hS⟩ := hQ0
   replace hS := SH.pure_ h2417 hS
   replace hS := hS.pk 1
   replace hS := obj86_mk (x := y2412) hS
   replace hS := hS.pk 2
   replace hS := hS.pk 2
   replace hS := obj40_mk (x := a1) hS
   replace hS := hS.drop 2
   replace hS := hS.pk 1
   cases hF
   have ht := T2339_ _ rfl
   subst ht
   replace hF := hR2339
   replace hF : some (.inr (y2412, a1)) = some y := hF
   cases hF
   exact hQp _ rfl _ _ hA.defers hS
  replace hF := sum_l hF
  refine x_callw (vs := #[.pointer (some ⟨g0, 0, none⟩), .bool (Op.bytesLess x2409 y2347.1)]) en49 hA (RetS.lf (F_column_Reader_Check (L := blk g1 40 [.slice A105 n106 c107] :: own kS 9 A105 n106 c107 a1 :: own kS 9 A2235 n2236 c2237 l2234 :: L) y2347.2 (Op.bytesLess x2409 y2347.1) g0 h2413 (qz + 3) hZ hS)) (fun v ac w hR hA => ?_) rfl rfl rfl rfl rfl rfl rfl
  obtain ⟨rfl, hS⟩ := hR
  obtain ⟨A2418, n2419, c2420, hS⟩ := obj86_open hS
  replace hS := hS.pk 1
  have hQ0 := SH.unpure hS
  clear hS
  obtain ⟨h2421, hS⟩ := hQ0
  refine wpList_nil ?_
  exact hj2 y2412.f0 hF A2418 n2419 c2420 h2421 ac w (hA.sub _ rfl) hS
 replace hF := iff' hb2343 hF
 refine wp_exit ?_
 cases hF
 exact hx2339_0 l2229 l2234 (T2339_ _ rfl) A2230 n2231 c2232 A2235 n2236 c2237 h2233 ac w (hA.sub _ rfl) hS
theorem F_Try_column_ReadTexts_1 {r : World} {L : List HP} {w : World} {Z : Nat → Prop} {wz : World} (a0 : (List Int)) (a60 : (List (List UInt8))) (A0 : Option Addr) (n0 : Nat) (c0 : Nat) (g60 : Nat) {y : (Bool × (List (List UInt8)))} (hF : Try_column_ReadTexts_1 a0 a60 = some y) (qz : Nat) (hZ : L[qz]? = some (zone Z wz)) (ha0 : Imm Z wz (kI .u8) A0 n0 c0 a0) (hS : SH r (obj40 g60 a60 :: L) w) :
  Ret Tryz.prog 18 #[.slice A0 n0 c0, .func (.func 52) #[] #[.pointer (some ⟨g60, 0, none⟩)]] w fun v w' => v = .bool y.1 ∧ SH r (obj40 g60 y.2 :: L) w' := by
 obtain ⟨y', hy, hF⟩ := bnd hF
 refine Ret.mono_ (try_walk (R := fun v w' => v = .bool y.1 ∧ SH r (obj40 g60 y.2 :: L) w') en52 hS (fun g g4 w1 hS1 => ?_)) (fun v w' h => h)
 replace hS1 := obj86_mk (x := ⟨a0⟩) (hS1.pk 1 |> fun h => (SH.pure_ ha0 (h.pk 1)).pk 1)
 replace hS1 := hS1.pk 1
 replace hS1 := hS1.pk 2
 replace hS1 := hS1.pk 2
 rcases y' with y' | y'
 ·replace hF := sum_l hF
  cases hF
  left
  refine Ret.mono_ (RetS.lf (F_column_ReadTexts_1 (L := blk g4 4 [.bool false] :: L) (⟨a0⟩ : S86) a60 g g60 hy (qz + 1) hZ hS1)) ?_
  rintro v w2 ⟨rfl, hS⟩
  replace hS := hS.pk 2
  replace hS := hS.pk 1
  obtain ⟨A', n', c', hS⟩ := obj86_open hS
  have hQ := SH.unpure (hS.pk 1)
  clear hS
  obtain ⟨hi, hS⟩ := hQ
  refine ⟨_, A', n', c', hS, fun w3 h3 => ⟨?_, h3⟩⟩
  rw [← hi.ln]
 ·replace hF := sum_r hF
  cases hF
  right
  refine Calls.mono (RetS.rf (F_column_ReadTexts_1 (L := blk g4 4 [.bool false] :: L) (⟨a0⟩ : S86) a60 g g60 hy (qz + 1) hZ hS1)) ?_
  rintro e w2 ⟨rfl, hS⟩
  replace hS := hS.pk 2
  replace hS := hS.drop 1
  exact ⟨rfl, _, hS, fun w3 h3 => ⟨rfl, h3⟩⟩
theorem F_column_ReadTexts {r : World} {L : List HP} {w : World} {Z : Nat → Prop} {wz : World} (a0 : (List Int)) (A0 : Option Addr) (n0 : Nat) (c0 : Nat) {y : ((List (List UInt8)) × Int)} (hF : column_ReadTexts a0 = some y) (qz : Nat) (hZ : L[qz]? = some (zone Z wz)) (ha0 : Imm Z wz (kI .u8) A0 n0 c0 a0) (hS : SH r (L) w) :
  Ret Tryz.prog 22 #[.slice A0 n0 c0] w fun v w' => ∃ (B0 : Option Addr) (m0 : Nat) (d0 : Nat), v = .tuple #[(.slice B0 m0 d0), (.int .i64 y.2)] ∧ SH r (own kS 9 B0 m0 d0 y.1 :: L) w' := by
 refine enter Tryz.func22 rfl Tryz.ntmps22 [(0, .slice A0 n0 c0)] rfl (by simp) ?_
 intro ac hA Qf hQ hQn
 unfold column_ReadTexts at hF
 refine ws fun K101 hK101 => ?_
 refine x_m hA rfl fun ac hA => ?_
 refine x_m hA rfl fun ac hA => ?_
 refine wn (hK101 _ _ ?_)
 refine ws fun K102 hK102 => ?_
 refine x_alloc (cs := [.slice none 0 0]) zr40 hA hS (fun g103 ac w hS hA => ?_) rfl rfl rfl rfl rfl
 refine wn (hK102 _ _ ?_)
 refine ws fun K104 hK104 => ?_
 refine x_m hA rfl fun ac hA => ?_
 refine x_v hA (r_makeFunc rfl (mapev (vals := #[]) hA rfl) (mapev (vals := #[.pointer (some ⟨g103, 0, none⟩)]) hA rfl)) rfl fun ac hA => ?_
 replace hS := SH.nil_own (d := kS) (e := 9) hS
 replace hS := hS.pk 1
 replace hS := obj40_mk (x := []) hS
 obtain ⟨y105, h106, hF⟩ := bnd hF
 refine x_call en18 hA (F_Try_column_ReadTexts_1 (L := L) a0 [] A0 n0 c0 g103 h106 (qz + 0) hZ ha0 hS) (fun v ac w hR hA => ?_) rfl rfl rfl rfl rfl
 obtain ⟨rfl, hS⟩ := hR
 obtain ⟨A107, n108, c109, hS⟩ := obj40_open hS
 refine x_m hA rfl fun ac hA => ?_
 refine wn (hK104 _ _ ?_)
 refine wp_seq_k fun K110 hK110 => ?_
 refine ws fun K111 hK111 => ?_
 refine x_m hA rfl fun ac hA => ?_
 refine x_v hA (r_not rfl (hA.ev rfl)) rfl fun ac hA => ?_
 refine wn (hK111 _ _ ?_)
 refine c_if hA rfl (fun hb112 => ?_) fun hb112 => ?_
 ·replace hF := ift hb112 hF
  refine ws fun K113 hK113 => ?_
  refine x_m hA rfl fun ac hA => ?_
  refine x_m hA rfl fun ac hA => ?_
  refine wn (hK113 _ _ ?_)
  refine wp_ret ?_
  replace hS := SH.nil_own (d := kS) (e := 9) hS
  replace hS := hS.drop 1
  replace hS := hS.drop 1
  cases hF
  refine hQ _ _ ?_
  refine lv2 Tryz.results22 hA rfl rfl ?_
  exact ⟨none, 0, 0, rfl, hS⟩
 replace hF := iff' hb112 hF
 refine wp_skip ?_
 refine hK110 _ _ ?_
 refine ws fun K114 hK114 => ?_
 refine x_ld Tryz.underlying40 (hS.cell 0 rfl 0 _ rfl) hA (fun ac hA => ?_) rfl rfl rfl rfl rfl rfl
 refine x_m hA rfl fun ac hA => ?_
 refine x_m hA rfl fun ac hA => ?_
 refine wn (hK114 _ _ ?_)
 refine wp_ret ?_
 replace hS := hS.drop 0
 cases hF
 refine hQ _ _ ?_
 refine lv2 Tryz.results22 hA rfl rfl ?_
 exact ⟨A107, n108, c109, rfl, hS⟩
end Go.Proofs.YthokgnonmcgkcaaGreatDoor.M
namespace Go.Proofs
open Go.RowKit Go.Maps Go.Sort Go.Shelf
def Tryz.sortL_ren : Go.Shelf.Ren := ⟨fun | 190 => 66 | 125 => 86 | 258 => 85 | 128 => 98 | 129 => 83 | 302 => 90 | 303 => 91 | 304 => 92 | 305 => 93 | 306 => 94 | 307 => 95 | 308 => 68 | 309 => 96 | 310 => 97 | 333 => 100 | 329 => 101 | 330 => 102 | 334 => 103 | 335 => 104 | 336 => 87 | 344 => 105 | n => n, fun | 31 => 40 | 9 => 9 | 3 => 3 | 46 => 101 | 0 => 0 | 51 => 79 | 53 => 34 | 4 => 4 | 183 => 121 | 182 => 120 | 131 => 75 | 5 => 5 | 218 => 127 | 222 => 131 | 228 => 133 | 229 => 134 | n => n, fun | n => n⟩
theorem Tryz.sortL : Go.Proofs.Lays.n190 Tryz.prog Tryz.sortL_ren := {
  mixed := by kernel_rfl
  f125 := Tryz.func86.trans (congrArg some (by kernel_rfl))
  f128 := Tryz.func98.trans (congrArg some (by kernel_rfl))
  f129 := Tryz.func83.trans (congrArg some (by kernel_rfl))
  f190 := Tryz.func66.trans (congrArg some (by kernel_rfl))
  f258 := Tryz.func85.trans (congrArg some (by kernel_rfl))
  f302 := Tryz.func90.trans (congrArg some (by kernel_rfl))
  f303 := Tryz.func91.trans (congrArg some (by kernel_rfl))
  f304 := Tryz.func92.trans (congrArg some (by kernel_rfl))
  f305 := Tryz.func93.trans (congrArg some (by kernel_rfl))
  f306 := Tryz.func94.trans (congrArg some (by kernel_rfl))
  f307 := Tryz.func95.trans (congrArg some (by kernel_rfl))
  f308 := Tryz.func68.trans (congrArg some (by kernel_rfl))
  f309 := Tryz.func96.trans (congrArg some (by kernel_rfl))
  f310 := Tryz.func97.trans (congrArg some (by kernel_rfl))
  f329 := Tryz.func101.trans (congrArg some (by kernel_rfl))
  f330 := Tryz.func102.trans (congrArg some (by kernel_rfl))
  f333 := Tryz.func100.trans (congrArg some (by kernel_rfl))
  f334 := Tryz.func103.trans (congrArg some (by kernel_rfl))
  f335 := Tryz.func104.trans (congrArg some (by kernel_rfl))
  f336 := Tryz.func87.trans (congrArg some (by kernel_rfl))
  f344 := Tryz.func105.trans (congrArg some (by kernel_rfl))
  t0 := Tryz.underlying0
  a0 := Tryz.isAgg0
  z0 := Tryz.sizeOf0
  v0 := Tryz.zeroValue0
  t3 := Tryz.underlying3
  a3 := Tryz.isAgg3
  z3 := Tryz.sizeOf3
  v3 := Tryz.zeroValue3
  t4 := Tryz.underlying4
  a4 := Tryz.isAgg4
  z4 := Tryz.sizeOf4
  v4 := Tryz.zeroValue4
  t5 := Tryz.underlying5
  a5 := Tryz.isAgg5
  z5 := Tryz.sizeOf5
  v5 := Tryz.zeroValue5
  t9 := Tryz.underlying9
  a9 := Tryz.isAgg9
  z9 := Tryz.sizeOf9
  v9 := Tryz.zeroValue9
  t31 := Tryz.underlying40
  a31 := Tryz.isAgg40
  z31 := Tryz.sizeOf40
  v31 := Tryz.zeroValue40
  t46 := Tryz.underlying101
  a46 := Tryz.isAgg101
  z46 := Tryz.sizeOf101
  v46 := Tryz.zeroValue101
  t51 := Tryz.underlying79
  a51 := Tryz.isAgg79
  z51 := Tryz.sizeOf79
  v51 := Tryz.zeroValue79
  t53 := Tryz.underlying34
  a53 := Tryz.isAgg34
  z53 := Tryz.sizeOf34
  v53 := Tryz.zeroValue34
  t131 := Tryz.underlying75
  a131 := Tryz.isAgg75
  z131 := Tryz.sizeOf75
  v131 := Tryz.zeroValue75
  t182 := Tryz.underlying120
  a182 := Tryz.isAgg120
  z182 := Tryz.sizeOf120
  v182 := Tryz.zeroValue120
  t183 := Tryz.underlying121
  a183 := Tryz.isAgg121
  z183 := Tryz.sizeOf121
  v183 := Tryz.zeroValue121
  t218 := Tryz.underlying127
  a218 := Tryz.isAgg127
  z218 := Tryz.sizeOf127
  v218 := Tryz.zeroValue127
  t222 := Tryz.underlying131
  a222 := Tryz.isAgg131
  z222 := Tryz.sizeOf131
  v222 := Tryz.zeroValue131
  t228 := Tryz.underlying133
  a228 := Tryz.isAgg133
  z228 := Tryz.sizeOf133
  v228 := Tryz.zeroValue133
  t229 := Tryz.underlying134
  a229 := Tryz.isAgg134
  z229 := Tryz.sizeOf134
  v229 := Tryz.zeroValue134 }
def Tryz.compactL_ren : Go.Shelf.Ren := ⟨fun | 194 => 37 | n => n, fun | 31 => 40 | 9 => 9 | 3 => 3 | 4 => 4 | 0 => 0 | n => n, fun | n => n⟩
theorem Tryz.compactL : Go.Proofs.Lays.n194 Tryz.prog Tryz.compactL_ren := {
  mixed := by kernel_rfl
  f194 := Tryz.func37.trans (congrArg some (by kernel_rfl))
  t0 := Tryz.underlying0
  a0 := Tryz.isAgg0
  z0 := Tryz.sizeOf0
  v0 := Tryz.zeroValue0
  t3 := Tryz.underlying3
  a3 := Tryz.isAgg3
  z3 := Tryz.sizeOf3
  v3 := Tryz.zeroValue3
  t4 := Tryz.underlying4
  a4 := Tryz.isAgg4
  z4 := Tryz.sizeOf4
  v4 := Tryz.zeroValue4
  t9 := Tryz.underlying9
  a9 := Tryz.isAgg9
  z9 := Tryz.sizeOf9
  v9 := Tryz.zeroValue9
  t31 := Tryz.underlying40
  a31 := Tryz.isAgg40
  z31 := Tryz.sizeOf40
  v31 := Tryz.zeroValue40 }
def Tryz.sortedL_ren : Go.Shelf.Ren := ⟨fun | 6 => 38 | 8 => 65 | 9 => 66 | 11 => 84 | 13 => 86 | 12 => 85 | 23 => 98 | 24 => 83 | 14 => 90 | 15 => 91 | 16 => 92 | 17 => 93 | 18 => 94 | 19 => 95 | 20 => 68 | 21 => 96 | 22 => 97 | 25 => 100 | 26 => 101 | 27 => 102 | 28 => 103 | 29 => 104 | 30 => 87 | 31 => 105 | n => n, fun | 26 => 9 | 28 => 72 | 24 => 40 | 0 => 0 | 3 => 3 | 37 => 101 | 48 => 79 | 50 => 34 | 4 => 4 | 40 => 121 | 39 => 120 | 45 => 75 | 5 => 5 | 9 => 9 | 51 => 127 | 55 => 131 | 57 => 133 | 58 => 134 | 33 => 100 | n => n, fun | n => n⟩
theorem Tryz.sortedL : Go.Proofs.SlLaysZ.n6 Tryz.prog Tryz.sortedL_ren := {
  mixed := by kernel_rfl
  f6 := ⟨ "slices.Sorted[string]", by decide, Tryz.func38.trans (congrArg some (by kernel_rfl))⟩
  f8 := ⟨ "slices.Collect[string]", by decide, Tryz.func65.trans (congrArg some (by kernel_rfl))⟩
  f11 := ⟨ "slices.AppendSeq[[]string,string]", by decide, Tryz.func84.trans (congrArg some (by kernel_rfl))⟩
  t0 := Tryz.underlying0
  a0 := Tryz.isAgg0
  z0 := Tryz.sizeOf0
  v0 := Tryz.zeroValue0
  t24 := Tryz.underlying40
  a24 := Tryz.isAgg40
  z24 := Tryz.sizeOf40
  v24 := Tryz.zeroValue40
  t26 := Tryz.underlying9
  a26 := Tryz.isAgg9
  z26 := Tryz.sizeOf9
  v26 := Tryz.zeroValue9
  t28 := Tryz.underlying72
  a28 := Tryz.isAgg72
  z28 := Tryz.sizeOf72
  v28 := Tryz.zeroValue72
  i26 := by kernel_rfl }
set_option maxRecDepth 100000 in
set_option maxHeartbeats 2000000 in
theorem values_gives (n : Nat) (hn : 1 ≤ n) (l Bx B : Nat) (W0 : World) (A : Option Addr) (c : Nat) (xs : List (List UInt8)) (hl : xs.length ≤ 4611686018427387904) (J : List (List UInt8) → World → Prop)
    (hJB : ∀ ss W1, J ss W1 → Below B W0 W1) (hBx : Bx < B) (hbox : W0.cell? ⟨Bx, 0, none⟩ = some (.slice A xs.length c))
    (hrow : 0 < xs.length → ∃ b off, A = some ⟨b, off, none⟩ ∧ b < B ∧ ∀ j x, xs[j]? = some x → W0.cell? ⟨b, off + j, none⟩ = some (encStr x))
    (hY : ∀ pre x W1, J pre W1 → pre.length < xs.length → YieldAt Fence.wide (n - 1) Tryz.prog l #[encStr x] W1 fun e W' => e = .returned (.bool true) ∧ J (pre ++ [x]) W' ∧ KeepsWalks W1 W')
    (W : World) (h0 : J [] W) :
    CallsIn Fence.wide n Tryz.prog 67 #[.func (.yield l) #[] #[], .pointer (some ⟨Bx, 0, none⟩)] W fun e W' => (∃ v, e = .returned v) ∧ J xs W' := by
  have hb1 := (hJB _ _ h0)
  have hx0 : W.cell? ⟨Bx, 0, none⟩ = some (.slice A xs.length c) := (hb1.cell (p := ⟨Bx, 0, none⟩) hBx).trans hbox
  refine callsIn_of_wp Tryz.func67 rfl trivial ?_ rfl
  simp only [Tryz.ntmps67, List.size_toArray, List.length_cons, List.length_nil, Nat.reduceAdd, Nat.reduceSub, Array.replicate_succ, Array.replicate_zero, List.push_toArray, List.append_toArray, List.nil_append, List.cons_append]
  gi_wp2
  gi_loopw [7] (fun s7 wr => ∃ k : Nat, s7 = .int .i64 k ∧ k ≤ xs.length ∧ J (xs.take k) wr) (fun s7 _ => match s7 with | .int .i64 k => (xs.length : Int).toNat - k.toNat | _ => 0)
  case atStart => exact ⟨0, rfl, Nat.zero_le _, by simpa using h0⟩
  case round =>
    obtain ⟨k, rfl, hk, hJk⟩ := hrel
    by_cases hlt : k < xs.length
    · obtain ⟨b, off, rfl, hb, hcell⟩ := hrow (by omega)
      have hx := List.getElem?_eq_getElem hlt
      have hc := ((hJB _ _ hJk).cell (p := ⟨b, off + k, none⟩) hb).trans (hcell k _ hx)
      obtain ⟨x, hxx⟩ : ∃ x, x = xs[k] := ⟨_, rfl⟩
      rw [← hxx] at hc hx
      have hkl : (xs.take k).length = k := by simp; omega
      obtain ⟨fn, tmps, assign, body, hy, hR⟩ := hY (xs.take k) x wr hJk (by omega)
      clear hrow hcell hxx
      gi_wp2
      refine hR.mono ?_
      rintro e W3 ⟨rfl, hJ3, hk3⟩
      gi_wp2
      go_roundw
      case rel => exact ⟨k + 1, by simp, by omega, by rw [List.take_add_one, hx]; exact hJ3⟩
      case measure => simp; omega
    · have : k = xs.length := by omega
      subst this
      gi_wp2
      go_end0
      exact ⟨⟨_, rfl⟩, by simpa using hJk⟩
set_option maxRecDepth 100000 in
set_option maxHeartbeats 2000000 in
theorem appendSeq_values (Bx : Nat) (w : World) (A : Option Addr) (c : Nat) (xs : List (List UInt8)) (hl : xs.length * 16 ≤ 140737488355328) (hBx : Bx < w.heap.size) (hbox : w.cell? ⟨Bx, 0, none⟩ = some (.slice A xs.length c))
    (hrow : 0 < xs.length → ∃ b off, A = some ⟨b, off, none⟩ ∧ b < w.heap.size ∧ ∀ j x, xs[j]? = some x → w.cell? ⟨b, off + j, none⟩ = some (encStr x)) :
    Calls Tryz.prog 84 #[.slice none 0 0, .func (.func 67) #[] #[.pointer (some ⟨Bx, 0, none⟩)]] w fun e w' => ∃ v, e = .returned v ∧ w'.ownsRow w.heap.size 9 1 v xs.length (xs.map encStr) ∧ (v = .slice none 0 0 ↔ xs = []) ∧ Below w.heap.size w w' := by
  refine (callsIn_wide (n := 5)).1 ?_
  obtain ⟨sv, hsv⟩ : ∃ sv : Value, sv = .func (.func 67) #[] #[.pointer (some ⟨Bx, 0, none⟩)] := ⟨_, rfl⟩
  have hsv' := hsv
  refine callsIn_of_wp_marks Tryz.func84 rfl trivial ?_ rfl
  simp only [Tryz.ntmps84, List.size_toArray, List.length_cons, List.length_nil, Nat.reduceAdd, Nat.reduceSub, Array.replicate_succ, Array.replicate_zero, List.push_toArray, List.append_toArray, List.nil_append, List.cons_append]
  gi_wp2
  refine wpIn_rangeFunc ?_
  intro fn hfn
  rw [show Fence.wide.round = none from rfl]
  let ρ := Tryz.sortedL_ren
  obtain ⟨W0, hW0⟩ : ∃ W0, w.alloc (.cells #[.slice none 0 0] 40) = W0 := ⟨_, rfl⟩
  have hs0 : W0.heap.size = w.heap.size + 1 := by rw [← hW0]; simp
  have hv0 : W0.heap[w.heap.size]? = some (.cells #[.slice none 0 0] 40 (0, 0)) := by rw [← hW0]; exact World.alloc_heap_new w _
  have hb0 : Below w.heap.size w W0 := by rw [← hW0]; exact (Below.refl _ w).alloc (Nat.le_refl _) _
  rw [hW0]
  obtain ⟨W1, hW1⟩ : ∃ W1, (W0.alloc (.deferred (some []))).alloc (.loop (AnyZ.apRec ρ fn sv w.heap.size W0.heap.size .ready none)) = W1 := ⟨_, rfl⟩
  have hold : ∀ k, k < W0.heap.size → W1.heap[k]? = W0.heap[k]? := fun k hk => by
    rw [← hW1]; exact (Below.heap_alloc _ _ k (by simp; omega)).trans (Below.heap_alloc _ _ k hk)
  have hb1 : Below w.heap.size w W1 := by rw [← hW1]; exact (hb0.alloc hb0.size _).alloc (by have := hb0.size; simp; omega) _
  have hM : AnyZ.ApAt ρ w fn sv w.heap.size (W0.heap.size + 1) W0.heap.size [] W1 :=
    ⟨⟨_, (hold w.heap.size (by omega)).trans hv0, ⟨rfl, .inl ⟨rfl, rfl⟩⟩, by simp⟩,
     by rw [← hW1]; have := World.alloc_heap_new (W0.alloc (.deferred (some []))) (.loop (AnyZ.apRec ρ fn sv w.heap.size W0.heap.size .ready none)); rwa [World.size_alloc] at this,
     by rw [← hW1]; exact (Below.heap_alloc _ _ _ (by simp)).trans (World.alloc_heap_new W0 _), hb1⟩
  refine ⟨W0.heap.size + 1, [{ target := .collected W0.heap.size, args := #[] }], W1, { target := .fn (.func 67) #[.pointer (some ⟨Bx, 0, none⟩)], args := #[.func (.yield (W0.heap.size + 1)) #[] #[]] }, W1, 67,
    #[.func (.yield (W0.heap.size + 1)) #[] #[]] ++ #[.pointer (some ⟨Bx, 0, none⟩)], W1, ?_, ?_, ?_, ?_, fun _ => by omega, ?_⟩
  · rw [← hW1, hsv]; exact run_enterLoop_outer _ _ _ _ _
  · simp [resolve, go_sem]
  · intro f' hf'; trivial
  · simp [invoke, go_sem]
  · have hcur := AnyZ.apYield (ρ := ρ) (P := Tryz.prog) { Tryz.sortedL with } Fence.wide 3 w fn hfn sv w.heap.size (W0.heap.size + 1) W0.heap.size (by omega) (by omega) (by omega) (Nat.le_refl _) (by omega) xs.length (by unfold maxLen; omega) hl
    refine (values_gives 4 (by omega) (W0.heap.size + 1) Bx w.heap.size w A c xs (by omega) (AnyZ.ApAt ρ w fn sv w.heap.size (W0.heap.size + 1) W0.heap.size) (fun ss W1 h => h.below) hBx hbox hrow
      (fun pre x W hJ hlt => hcur pre x W hJ hlt) W1 hM).mono ?_
    rintro e W2 ⟨⟨v0, rfl⟩, h2⟩
    obtain ⟨v, hv, hr, hnil⟩ := h2.box
    have hend := run_endLoop (P := Tryz.prog) h2.L (by simp [AnyZ.apRec])
    obtain ⟨W3, hW3⟩ : ∃ W3, W2.putObj (W0.heap.size + 1) (.loop { AnyZ.apRec ρ fn sv w.heap.size W0.heap.size .ready none with state := .exhausted }) = W3 := ⟨_, rfl⟩
    rw [hW3] at hend
    have hg3 : W2.grownBy W3 (some (W0.heap.size + 1)) := by rw [← hW3]; exact grownBy_putObj_a _ _ _
    have hv3 : W3.heap[w.heap.size]? = some (.cells #[v] 40 (0, 0)) := by rw [← hW3]; exact (World.putObj_heap_other (by omega)).trans hv
    have hK3 : W3.heap[W0.heap.size]? = some (.deferred (some [])) := by rw [← hW3]; exact (World.putObj_heap_other (by omega)).trans h2.K
    have hr3 := hr.kept hg3 (ownsRow_ne_a hr h2.L (fun cur e => by cases e))
    have hb3 : Below w.heap.size w W3 := h2.below.grown hg3 h2.below.size (fun k e => by cases e; omega)
    obtain ⟨hc3, hf3⟩ := cell_of_box_a hv3
    clear hW3
    refine ⟨none, W3, hend, ?_⟩
    gi_wp2
    rw [← hs0]
    refine ⟨by simp, .inl ⟨_, _, rfl, run_takeDeferred hK3, ?_⟩⟩
    exact ⟨_, results_tmp rfl _ _ _, v, rfl, hr3.kept (grownBy_putObj_a _ _ _) (ownsRow_ne_a hr3 hK3 (fun cur e => by cases e)), hnil, hb3.grown (grownBy_putObj_a _ _ _) hb3.size (fun k e => by cases e; omega)⟩
set_option maxRecDepth 100000 in
set_option maxHeartbeats 2000000 in
theorem collect_values (Bx : Nat) (w : World) (A : Option Addr) (c : Nat) (xs : List (List UInt8)) (hl : xs.length * 16 ≤ 140737488355328) (hBx : Bx < w.heap.size) (hbox : w.cell? ⟨Bx, 0, none⟩ = some (.slice A xs.length c))
    (hrow : 0 < xs.length → ∃ b off, A = some ⟨b, off, none⟩ ∧ b < w.heap.size ∧ ∀ j x, xs[j]? = some x → w.cell? ⟨b, off + j, none⟩ = some (encStr x)) :
    Calls Tryz.prog 65 #[.func (.func 67) #[] #[.pointer (some ⟨Bx, 0, none⟩)]] w fun e w' => ∃ v, e = .returned v ∧ w'.ownsRow w.heap.size 9 1 v xs.length (xs.map encStr) ∧ (v = .slice none 0 0 ↔ xs = []) ∧ Below w.heap.size w w' := by
  refine (callsIn_wide (n := 6)).1 ?_
  have cS := (callsIn_wide (n := 5)).2 (appendSeq_values Bx w A c xs hl hBx hbox hrow)
  refine callsIn_of_wp Tryz.func65 rfl trivial ?_ rfl
  simp only [Tryz.ntmps65, List.size_toArray, List.length_cons, List.length_nil, Nat.reduceAdd, Nat.reduceSub, Array.replicate_succ, Array.replicate_zero, List.push_toArray, List.append_toArray, List.nil_append, List.cons_append]
  have hfS : Fence.wide.fn 84 := trivial
  gi_wp2_with (gi_at_call 84; refine cS.mono ?_; rintro e w' ⟨v, rfl, hr, hnil, hb⟩)
  go_ret
  exact ⟨v, rfl, hr, hnil, hb⟩
set_option maxRecDepth 100000 in
set_option maxHeartbeats 2000000 in
theorem sorted_values (Bx : Nat) (w : World) (A : Option Addr) (c : Nat) (xs : List (List UInt8)) (hl : xs.length * 16 ≤ 140737488355328) (hBx : Bx < w.heap.size) (hbox : w.cell? ⟨Bx, 0, none⟩ = some (.slice A xs.length c))
    (hrow : 0 < xs.length → ∃ b off, A = some ⟨b, off, none⟩ ∧ b < w.heap.size ∧ ∀ j x, xs[j]? = some x → w.cell? ⟨b, off + j, none⟩ = some (encStr x)) :
    Calls Tryz.prog 38 #[.func (.func 67) #[] #[.pointer (some ⟨Bx, 0, none⟩)]] w fun e w' => ∃ v, e = .returned v ∧ w'.ownsRow w.heap.size 9 1 v xs.length ((xs.mergeSort fun x y => decide (x ≤ y)).map encStr) ∧ (v = .slice none 0 0 ↔ xs = []) ∧ Below w.heap.size w w' := by
  refine (callsIn_wide (n := 7)).1 ?_
  have cS := (callsIn_wide (n := 6)).2 (collect_values Bx w A c xs hl hBx hbox hrow)
  refine callsIn_of_wp Tryz.func38 rfl trivial ?_ rfl
  simp only [Tryz.ntmps38, List.size_toArray, List.length_cons, List.length_nil, Nat.reduceAdd, Nat.reduceSub, Array.replicate_succ, Array.replicate_zero, List.push_toArray, List.append_toArray, List.nil_append, List.cons_append]
  have hfS : Fence.wide.fn 65 := trivial
  have hfT : Fence.wide.fn 66 := trivial
  gi_wp2_with (gi_at_call 65; refine cS.mono ?_; rintro e W ⟨v, rfl, hr, hnil, hb⟩)
  rcases hr.2 with ⟨rfl, hz⟩ | ⟨gb, cap, cur, rfl, hbase, hgb, r1, r2, r3, r4⟩
  · have hss : xs = [] := List.eq_nil_of_length_eq_zero hz
    subst hss
    have cT := (callsIn_wide (n := 6)).2 (Any.slices_Sort_string_none Tryz.sortL none 0 W)
    change CallsIn _ _ Tryz.prog 66 _ _ _ at cT
    gi_wp2_with (gi_at_call 66; refine cT.mono ?_; rintro e w' ⟨rfl, rfl⟩)
    go_ret
    exact ⟨_, rfl, by simpa using hr, by simp, hb⟩
  · have hH : Holds encStr W gb 0 xs.toArray := holds_of_block hgb (by simpa using r4)
    have hgl : gb < W.heap.size := (Array.getElem?_eq_some_iff.1 hgb).1
    have cT := (callsIn_wide (n := 6)).2 (Any.slices_Sort_string Tryz.sortL gb 0 cap xs W hH hgl (by omega))
    change CallsIn _ _ Tryz.prog 66 _ _ _ at cT
    gi_wp2_with (gi_at_call 66; refine cT.mono ?_; rintro e w' ⟨rfl, nn, os, rfl⟩)
    go_ret
    exact ⟨_, rfl, ownsRow_sorted (by simp) hbase hgb r1 r2 r3, hnil, hb.grown (grownBy_sorted _) hb.size (fun j hj => by cases hj; exact hbase)⟩
end Go.Proofs
namespace Go.Proofs.YthokgnonmcgkcaaGreatDoor.M
open Go Go.RowKit Go.Proofs.YthokgnonmcgkcaaGreatDoor.E
noncomputable def slices_Sorted_string (a0 : List (List UInt8)) : Option (List (List UInt8)) := chk (a0.length * 16 ≤ 140737488355328) (some (a0.mergeSort fun x y => decide (x ≤ y)))
noncomputable def slices_Compact_string (a0 : List (List UInt8)) : Option (List (List UInt8)) := some (Lib.compact a0)
end Go.Proofs.YthokgnonmcgkcaaGreatDoor.M
namespace Go.Proofs.YthokgnonmcgkcaaGreatDoor.M
open Go Go.RowKit Go.Proofs.YthokgnonmcgkcaaGreatDoor.E
set_option linter.unusedVariables false
theorem F_slices_Values {r w : World} {L : List HP} {A : Option Addr} {n c : Nat} (hS : SH r L w) :
    Ret Tryz.prog 39 #[.slice A n c] w fun v w' => ∃ g, v = .func (.func 67) #[] #[.pointer (some ⟨g, 0, none⟩)] ∧ SH r (blk g 40 [.slice A n c] :: L) w' := by
  refine enter Tryz.func39 rfl Tryz.ntmps39 [(0, .slice A n c)] rfl (by simp) ?_
  intro ac hA Qf hQ hQn
  refine wp_seq_k fun K1 hK1 => ?_
  refine wp_reg ?_
  refine x_box hA hS (fun g ac w hS hA => ?_) rfl rfl rfl rfl rfl rfl
  refine x_assign hA (fun ac hA => ?_) rfl rfl rfl rfl rfl
  refine wpList_nil ?_
  refine hK1 _ _ ?_
  refine wp_seq_k fun K2 hK2 => ?_
  refine wp_reg ?_
  refine x_val hA (r_makeFunc rfl (mapev (vals := #[]) hA rfl) (mapev (vals := #[.pointer (some ⟨g, 0, none⟩)]) hA rfl)) (fun ac hA => ?_) rfl rfl rfl
  refine x_assign hA (fun ac hA => ?_) rfl rfl rfl rfl rfl
  refine wpList_nil ?_
  refine hK2 _ _ ?_
  refine wp_ret ?_
  refine hQ _ _ ?_
  refine lv Tryz.results39 hA rfl ?_
  exact ⟨g, rfl, hS⟩
theorem F_slices_Sorted {r w : World} {L : List HP} (xs : List (List UInt8)) {g : Nat} {A : Option Addr} {n c : Nat} {y : List (List UInt8)} (hF : slices_Sorted_string xs = some y) (ha : RdL L kS A n c xs) (hS : SH r (blk g 40 [.slice A n c] :: L) w) :
    Ret Tryz.prog 38 #[.func (.func 67) #[] #[.pointer (some ⟨g, 0, none⟩)]] w fun v w' => ∃ (A' : Option Addr) (n' c' : Nat), v = .slice A' n' c' ∧ SH r (own kS 9 A' n' c' y :: L) w' := by
  obtain ⟨hsz, hF⟩ := chk_some hF
  cases hF
  obtain ⟨S1, S2, h1, h2, hd, hA, hL⟩ := hS.head
  have hg := hA.2
  have hgl : g < w.heap.size := (Array.getElem?_eq_some_iff.1 hg).1
  have hln := ha.ln
  subst hln
  refine Calls.mono (sorted_values g w A c xs hsz hgl (by simp [World.cell?, hg]) fun hpos => ?_) ?_
  · obtain ⟨ad, e, hr⟩ := ha.rd w S2 hL hpos
    have hc : ∀ j x, xs[j]? = some x → w.cell? (ad.add j) = some (encStr x) := fun j x hx => by
      obtain ⟨cs, hV, h3⟩ := hr j x hx
      have hV' : cs = [str x] := hV
      subst hV'
      have := h3 0 (str x) rfl
      rw [show j * kS.sz + 0 = j from by show j * 1 + 0 = j; omega] at this
      exact this
    obtain ⟨x, hx⟩ : ∃ x, xs[0]? = some x := ⟨_, List.getElem?_eq_getElem hpos⟩
    have h0 := hc 0 x hx
    obtain ⟨b, off, sp⟩ := ad
    have hsp : sp = none := by simpa [Addr.add] using World.cell?_spot h0
    subst hsp
    refine ⟨b, off, e, ?_, fun j x hx => ?_⟩
    · have : w.cell? ⟨b, off, none⟩ = some (encStr x) := by simpa [Addr.add] using h0
      unfold World.cell? at this
      split at this
      · rename_i hq; exact (Array.getElem?_eq_some_iff.1 hq).1
      · cases this
    · have := hc j x hx
      unfold Addr.add at this
      split at this
      · rename_i hj; subst hj; exact this
      · exact this
  · rintro ev w' ⟨v, rfl, hr, _, hb⟩
    obtain ⟨A', n', c', rfl, hS'⟩ := hS.tail.newrow (d := kS) (xs := xs.mergeSort fun x y => decide (x ≤ y)) hb (by rw [List.length_mergeSort]; exact hr) (lay_kS _)
    exact ⟨_, rfl, A', n', c', rfl, hS'⟩
theorem F_slices_Compact {r w : World} {L : List HP} (xs : List (List UInt8)) {A : Option Addr} {n c : Nat} {y : List (List UInt8)} (hF : slices_Compact_string xs = some y) (hS : SH r (own kS 9 A n c xs :: L) w) :
    Ret Tryz.prog 37 #[.slice A n c] w fun v w' => ∃ (A' : Option Addr) (n' c' : Nat), v = .slice A' n' c' ∧ SH r (own kS 9 A' n' c' y :: L) w' := by
  cases hF
  obtain ⟨S1, S2, h1, h2, hd, hA, hL⟩ := hS.head
  obtain ⟨hn, ⟨inner, hLy, ho⟩, hg⟩ := hA
  subst hn
  have hle := own_le (d := kS) (e := 9) ⟨rfl, ⟨inner, hLy, ho⟩, hg⟩
  obtain rfl := lay_kS_eq hLy
  rcases ho.2 with ⟨hv, h0⟩ | ⟨g, cap, cur, hv, hg0, hh, hnc, hcm, hs, ht⟩
  · injection hv with e1 e2 e3
    subst e1; subst e3
    have hx : xs = [] := List.eq_nil_of_length_eq_zero h0
    subst hx
    have cC := Any.slices_Compact_string_empty Tryz.compactL none 0 w
    change Calls Tryz.prog 37 _ _ _ at cC
    refine cC.mono ?_
    rintro ev w' ⟨rfl, rfl⟩
    exact ⟨_, rfl, none, 0, 0, rfl, hS⟩
  · injection hv with e1 e2 e3
    subst e1; subst e3
    have hH : Go.Sort.Holds encStr w g 0 xs.toArray := holds_of_block hh (by rw [show xs.length * kS.sz = xs.length from by show _ * 1 = _; omega] at ht; exact ht)
    have cC := Any.slices_Compact_string Tryz.compactL g 0 c xs w hH (by unfold maxLen at hcm; omega) hnc
    change Calls Tryz.prog 37 _ _ _ at cC
    refine cC.mono ?_
    rintro ev w' ⟨rfl, q, rfl⟩
    have hcl : (Lib.compact xs).length ≤ xs.length := compact_len xs
    refine ⟨_, rfl, some ⟨g, 0, none⟩, (Lib.compact xs).length, c, rfl, ?_⟩
    have hr := ownsRow_sorted (w := w) (base := 0) (n := q) (os := #[]) (ss := xs) (ts := Lib.compact xs ++ List.replicate (xs.length - (Lib.compact xs).length) []) (by simp; omega) (Nat.zero_le _) hh hnc hcm hs
    rw [Go.Sort.grow_empty] at hr
    have hgb := grownBy_sorted (w := w) (g := g) (n := q) (os := #[]) (Lib.compact xs ++ List.replicate (xs.length - (Lib.compact xs).length) ([] : List UInt8)).toArray
    rw [Go.Sort.grow_empty] at hgb
    obtain ⟨q1, q2, q3, q4, q5⟩ := hgb
    refine hS.upd (Ls := [own kS 9 (some ⟨g, 0, none⟩) (Lib.compact xs).length c (Lib.compact xs)]) h1 h2 hd hL q1 q2 q3 q4 (fun k hk hnk => q5 k hk fun e => hnk (by cases e; exact hg g rfl)) fun S hSS _ _ => ?_
    refine ⟨S, fun _ => False, fun k hk => hk, fun k hk => hk.elim, fun k _ hk => hk, ⟨rfl, ⟨_, lay_kS _, ?_⟩, fun k hk => by cases hk; exact hSS g (hg g rfl)⟩, trivial⟩
    refine ⟨by simp [kS], ?_⟩
    rcases hr.2 with ⟨hv2, _⟩ | ⟨g2, cap2, cur2, hv2, _, hh2, hnc2, hcm2, hs2, ht2⟩
    · cases hv2
    · injection hv2 with e1 e2 e3
      injection e1 with e1
      injection e1 with e1
      subst e1; subst e3
      refine .inr ⟨g, c, cur2, rfl, Nat.zero_le _, hh2, by omega, hcm2, hs2, ?_⟩
      have h5 := congrArg (List.take (Lib.compact xs).length) ht2
      rw [List.take_take, Nat.min_eq_left (by omega), List.map_append, List.take_left' (by simp)] at h5
      rw [show (Lib.compact xs).length * kS.sz = (Lib.compact xs).length from by show _ * 1 = _; omega]
      exact h5
end Go.Proofs.YthokgnonmcgkcaaGreatDoor.M
namespace Go.Proofs.YthokgnonmcgkcaaGreatDoor.M
open Go Go.RowKit Go.Proofs.YthokgnonmcgkcaaGreatDoor.E
set_option linter.unusedVariables false
set_option linter.unusedSimpArgs false
noncomputable def cmp_isNaN_string (a0 : (List UInt8)) : Option (Bool) :=
  some (!(a0 == a0))
noncomputable def slices_isNaN_string (a0 : (List UInt8)) : Option (Bool) :=
  some (!(a0 == a0))
noncomputable def cmp_Less_string (a0 : (List UInt8)) (a1 : (List UInt8)) : Option (Bool) :=
  (cmp_isNaN_string a0).bind fun y103 => (if y103 = true then ((cmp_isNaN_string a1).bind fun y106 => (if (!y106) = true then (some true) else (some (Op.bytesLess a0 a1)))) else (some (Op.bytesLess a0 a1)))
noncomputable def slices_BinarySearch_string_string_b1 (a0 : (List (List UInt8))) (a1 : (List UInt8)) (x520 : Int) : Option (Int × Bool) :=
  if (decide (x520 < (a0.length : Int))) = true then ((at_ a0 x520).bind fun x523 => (if (x523 == a1) = true then (some (x520, true)) else ((slices_isNaN_string x523).bind fun y528 => (if y528 = true then ((slices_isNaN_string a1).bind fun y531 => (some (x520, y531))) else (some (x520, false)))))) else (some (x520, false))
noncomputable def slices_BinarySearch_string_string_x1_0 (a0 : (List (List UInt8))) (a1 : (List UInt8)) (x625 : Int) : Option (Int × Bool) :=
  slices_BinarySearch_string_string_b1 a0 a1 x625
noncomputable def slices_BinarySearch_string_string_b2 (x649 : Int) (x650 : Int) : Option ((Int × Int) ⊕ ((Int))) :=
  some (.inl (x649, x650))
noncomputable def slices_BinarySearch_string_string_l1 (a0 : (List (List UInt8))) (a1 : (List UInt8)) (x578 : Int) (x579 : Int) : Option ((Int × Int) ⊕ ((Int))) :=
  if (decide (x578 < x579)) = true then (ltt (IntKind.i64.wrap (x578 + x579)) fun x652 => (ltt (IntKind.u64.wrap x652) fun x654 => (ltt (ishr .u64 x654 1) fun x656 => (ltt (IntKind.i64.wrap x656) fun x658 => ((at_ a0 x658).bind fun x661 => ((cmp_Less_string x661 a1).bind fun y664 => (if y664 = true then (ltt (IntKind.i64.wrap (x658 + 1)) fun x667 => (slices_BinarySearch_string_string_b2 x667 x579)) else (slices_BinarySearch_string_string_b2 x578 x658)))))))) else (some (.inr (x578)))
noncomputable def slices_BinarySearch_string_string (a0 : (List (List UInt8))) (a1 : (List UInt8)) : Option (Int × Bool) :=
  (loop (fun s => slices_BinarySearch_string_string_l1 a0 a1 s.1 s.2) (0, (a0.length : Int))).bind fun t => slices_BinarySearch_string_string_x1_0 a0 a1 t
noncomputable def r03_Texts_b3 (l35550 : (List Int)) (l52533 : (List Int)) : Option ((List Int)) :=
  (r03_Ints l52533).bind fun y52538 => (chk (l35550.length + y52538.length ≤ 140737488355328 / 1) (some (l35550 ++ y52538)))
noncomputable def r03_Texts_x1_6 (l35550 : (List Int)) (l56322 : (List Int)) : Option ((List Int)) :=
  r03_Texts_b3 l35550 l56322
noncomputable def r03_Texts_b4 (x54440 : Int) (l57966 : (List Int)) : Option (((List Int) × Int) ⊕ (((List Int)))) :=
  ltt (IntKind.i64.wrap (x54440 + 1)) fun x57970 => (some (.inl (l57966, x57970)))
noncomputable def r03_Texts_x2_8 (x54440 : Int) (l58127 : (List Int)) : Option (((List Int) × Int) ⊕ (((List Int)))) :=
  r03_Texts_b4 x54440 l58127
noncomputable def r03_Texts_b5 (x58051 : Int) (l58182 : (List Int)) : Option (((List Int) × Int) ⊕ (((List Int)))) :=
  ltt (IntKind.i64.wrap (x58051 + 1)) fun x58186 => (some (.inl (l58182, x58186)))
noncomputable def r03_Texts_l2 (a0 : (List (List UInt8))) (l35297 : (List (List UInt8))) (x54440 : Int) (l58047 : (List Int)) (x58051 : Int) : Option (((List Int) × Int) ⊕ (((List Int)))) :=
  if (decide (x58051 < (l35297.length : Int))) = true then ((at_ l35297 x58051).bind fun x58189 => ((at_ a0 x54440).bind fun x58192 => (if (x58189 == x58192) = true then (chk (l58047.length + [x58051].length ≤ 140737488355328 / 8) (r03_Texts_b5 x58051 (l58047 ++ [x58051]))) else (r03_Texts_b5 x58051 l58047)))) else (some (.inr (l58047)))
noncomputable def r03_Texts_l1 (a0 : (List (List UInt8))) (l35297 : (List (List UInt8))) (l54436 : (List Int)) (x54440 : Int) : Option (((List Int) × Int) ⊕ (((List Int)))) :=
  if (decide (x54440 < (a0.length : Int))) = true then ((loop (fun s => r03_Texts_l2 a0 l35297 x54440 s.1 s.2) (l54436, 0)).bind fun t => r03_Texts_x2_8 x54440 t) else (some (.inr (l54436)))
noncomputable def r03_Texts_b2 (a0 : (List (List UInt8))) (l35297 : (List (List UInt8))) (l35550 : (List Int)) : Option ((List Int)) :=
  (loop (fun s => r03_Texts_l1 a0 l35297 s.1 s.2) ([], 0)).bind fun t => r03_Texts_x1_6 l35550 t
noncomputable def r03_Texts_x3_4 (a0 : (List (List UInt8))) (l35297 : (List (List UInt8))) (l58254 : (List Int)) : Option ((List Int)) :=
  r03_Texts_b2 a0 l35297 l58254
noncomputable def r03_Texts_l3 (l35297 : (List (List UInt8))) (l58225 : (List Int)) (x58229 : Int) : Option (((List Int) × Int) ⊕ (((List Int)))) :=
  if (decide (x58229 < (l35297.length : Int))) = true then ((at_ l35297 x58229).bind fun x58264 => ((r03_Text x58264).bind fun y58267 => (chk (l58225.length + y58267.length ≤ 140737488355328 / 1) (ltt (IntKind.i64.wrap (x58229 + 1)) fun x58276 => (some (.inl (l58225 ++ y58267, x58276))))))) else (some (.inr (l58225)))
noncomputable def r03_Texts_b1 (a0 : (List (List UInt8))) (l35297 : (List (List UInt8))) : Option ((List Int)) :=
  ltt (IntKind.u64.wrap (l35297.length : Int)) fun x35302 => ((r03_Uint x35302).bind fun y35304 => ((loop (fun s => r03_Texts_l3 l35297 s.1 s.2) (y35304, 0)).bind fun t => r03_Texts_x3_4 a0 l35297 t))
noncomputable def r03_Texts_x4_0 (a0 : (List (List UInt8))) (l66101 : (List (List UInt8))) : Option ((List Int)) :=
  r03_Texts_b1 a0 l66101
noncomputable def r03_Texts_j1 (x62195 : Int) (l69026 : (List (List UInt8))) : Option (((List (List UInt8)) × Int) ⊕ (((List (List UInt8))))) :=
  ltt (IntKind.i64.wrap (x62195 + 1)) fun x69030 => (some (.inl (l69026, x69030)))
noncomputable def r03_Texts_b6 (a0 : (List (List UInt8))) (x62195 : Int) (l69010 : (List (List UInt8))) (b69014 : Bool) : Option (((List (List UInt8)) × Int) ⊕ (((List (List UInt8))))) :=
  if (!b69014) = true then ((at_ a0 x62195).bind fun x69034 => (chk (l69010.length + [x69034].length ≤ 140737488355328 / 16) (r03_Texts_j1 x62195 (l69010 ++ [x69034])))) else (r03_Texts_j1 x62195 l69010)
noncomputable def r03_Texts_x5_2 (a0 : (List (List UInt8))) (x62195 : Int) (l69678 : (List (List UInt8))) (b69682 : Bool) : Option (((List (List UInt8)) × Int) ⊕ (((List (List UInt8))))) :=
  r03_Texts_b6 a0 x62195 l69678 b69682
noncomputable def r03_Texts_b7 (x69351 : Int) (l69921 : (List (List UInt8))) (b69925 : Bool) : Option (((List (List UInt8)) × Bool × Int) ⊕ (((List (List UInt8)) × Bool))) :=
  ltt (IntKind.i64.wrap (x69351 + 1)) fun x69926 => (some (.inl (l69921, b69925, x69926)))
noncomputable def r03_Texts_j2 (a0 : (List (List UInt8))) (l62191 : (List (List UInt8))) (x62195 : Int) (x69351 : Int) (l69956 : (List (List UInt8))) (b69960 : Bool) : Option (((List (List UInt8)) × Bool × Int) ⊕ (((List (List UInt8)) × Bool))) :=
  (at_ l62191 x69351).bind fun x69962 => ((at_ a0 x62195).bind fun x69965 => (if (!(x69962 == x69965)) = true then (chk (l69956.length + [x69962].length ≤ 140737488355328 / 16) (r03_Texts_b7 x69351 (l69956 ++ [x69962]) b69960)) else (r03_Texts_b7 x69351 l69956 b69960)))
noncomputable def r03_Texts_j3 (a0 : (List (List UInt8))) (l62191 : (List (List UInt8))) (x62195 : Int) (l69346 : (List (List UInt8))) (b69350 : Bool) (x69351 : Int) (b69983 : Bool) : Option (((List (List UInt8)) × Bool × Int) ⊕ (((List (List UInt8)) × Bool))) :=
  if b69983 = true then ((at_ a0 x62195).bind fun x69986 => (chk (l69346.length + [x69986].length ≤ 140737488355328 / 16) (r03_Texts_j2 a0 l62191 x62195 x69351 (l69346 ++ [x69986]) true))) else (r03_Texts_j2 a0 l62191 x62195 x69351 l69346 b69350)
noncomputable def r03_Texts_l5 (a0 : (List (List UInt8))) (l62191 : (List (List UInt8))) (x62195 : Int) (l69346 : (List (List UInt8))) (b69350 : Bool) (x69351 : Int) : Option (((List (List UInt8)) × Bool × Int) ⊕ (((List (List UInt8)) × Bool))) :=
  if (decide (x69351 < (l62191.length : Int))) = true then (if (!b69350) = true then ((at_ l62191 x69351).bind fun x69995 => ((at_ a0 x62195).bind fun x69998 => (r03_Texts_j3 a0 l62191 x62195 l69346 b69350 x69351 (!Op.bytesLess x69995 x69998)))) else (r03_Texts_j3 a0 l62191 x62195 l69346 b69350 x69351 false)) else (some (.inr (l69346, b69350)))
noncomputable def r03_Texts_l4 (a0 : (List (List UInt8))) (l62191 : (List (List UInt8))) (x62195 : Int) : Option (((List (List UInt8)) × Int) ⊕ (((List (List UInt8))))) :=
  if (decide (x62195 < (a0.length : Int))) = true then ((loop (fun s => r03_Texts_l5 a0 l62191 x62195 s.1 s.2.1 s.2.2) ([], false, 0)).bind fun t => r03_Texts_x5_2 a0 x62195 t.1 t.2) else (some (.inr (l62191)))
noncomputable def r03_Texts (a0 : (List (List UInt8))) : Option ((List Int)) :=
  (loop (fun s => r03_Texts_l4 a0 s.1 s.2) ([], 0)).bind fun t => r03_Texts_x4_0 a0 t
noncomputable def column_Texts_b2 (l336 : (List Int)) (l606 : (List Int)) : Option ((List Int)) :=
  (column_Ints l606).bind fun y611 => (chk (l336.length + y611.length ≤ 140737488355328 / 1) (some (l336 ++ y611)))
noncomputable def column_Texts_x1_2 (l336 : (List Int)) (l681 : (List Int)) : Option ((List Int)) :=
  column_Texts_b2 l336 l681
noncomputable def column_Texts_l1 (a0 : (List (List UInt8))) (y109 : (List (List UInt8))) (l652 : (List Int)) (x656 : Int) : Option (((List Int) × Int) ⊕ (((List Int)))) :=
  if (decide (x656 < (a0.length : Int))) = true then ((at_ a0 x656).bind fun x692 => ((slices_BinarySearch_string_string y109 x692).bind fun y696 => (chk (l652.length + [y696.1].length ≤ 140737488355328 / 8) (ltt (IntKind.i64.wrap (x656 + 1)) fun x703 => (some (.inl (l652 ++ [y696.1], x703))))))) else (some (.inr (l652)))
noncomputable def column_Texts_b1 (a0 : (List (List UInt8))) (y109 : (List (List UInt8))) (l336 : (List Int)) : Option ((List Int)) :=
  (loop (fun s => column_Texts_l1 a0 y109 s.1 s.2) ([], 0)).bind fun t => column_Texts_x1_2 l336 t
noncomputable def column_Texts_x2_0 (a0 : (List (List UInt8))) (y109 : (List (List UInt8))) (l752 : (List Int)) : Option ((List Int)) :=
  column_Texts_b1 a0 y109 l752
noncomputable def column_Texts_l2 (y109 : (List (List UInt8))) (l726 : (List Int)) (x730 : Int) : Option (((List Int) × Int) ⊕ (((List Int)))) :=
  if (decide (x730 < (y109.length : Int))) = true then ((at_ y109 x730).bind fun x763 => ((column_Text l726 x763).bind fun y766 => (ltt (IntKind.i64.wrap (x730 + 1)) fun x771 => (some (.inl (y766, x771)))))) else (some (.inr (l726)))
noncomputable def column_Texts (a0 : (List (List UInt8))) : Option ((List Int)) :=
  (slices_Sorted_string a0).bind fun y104 => ((slices_Compact_string y104).bind fun y109 => (ltt (IntKind.u64.wrap (y109.length : Int)) fun x115 => ((column_Uint [] x115).bind fun y117 => ((loop (fun s => column_Texts_l2 y109 s.1 s.2) (y117, 0)).bind fun t => column_Texts_x2_0 a0 y109 t))))
end Go.Proofs.YthokgnonmcgkcaaGreatDoor.M
namespace Go.Proofs.YthokgnonmcgkcaaGreatDoor.M
open Go Go.RowKit Go.Proofs.YthokgnonmcgkcaaGreatDoor.E
set_option linter.unusedVariables false
set_option maxRecDepth 100000
set_option maxHeartbeats 4000000
set_option linter.unusedSimpArgs false
theorem F_cmp_isNaN_string {r : World} {L : List HP} {w : World} (a0 : (List UInt8)) {y : (Bool)} (hF : cmp_isNaN_string a0 = some y) (hS : SH r (L) w) :
  Ret Tryz.prog 87 #[str a0] w fun v w' => v = .bool y ∧ SH r (L) w' := by
 refine enter Tryz.func87 rfl Tryz.ntmps87 [(0, str a0)] rfl (by simp) ?_
 intro ac hA Qf hQ hQn
 unfold cmp_isNaN_string at hF
 refine ws fun K101 hK101 => ?_
 refine x_m hA rfl fun ac hA => ?_
 refine wn (hK101 _ _ ?_)
 refine ws fun K102 hK102 => ?_
 refine x_m hA rfl fun ac hA => ?_
 refine x_m hA rfl fun ac hA => ?_
 refine x_v hA (r_neS rfl (hA.ev rfl) (hA.ev rfl)) rfl fun ac hA => ?_
 refine x_m hA rfl fun ac hA => ?_
 refine wn (hK102 _ _ ?_)
 refine wp_ret ?_
 cases hF
 refine hQ _ _ ?_
 refine lv Tryz.results87 hA rfl ?_
 exact ⟨rfl, hS⟩
theorem F_slices_isNaN_string {r : World} {L : List HP} {w : World} (a0 : (List UInt8)) {y : (Bool)} (hF : slices_isNaN_string a0 = some y) (hS : SH r (L) w) :
  Ret Tryz.prog 69 #[str a0] w fun v w' => v = .bool y ∧ SH r (L) w' := by
 refine enter Tryz.func69 rfl Tryz.ntmps69 [(0, str a0)] rfl (by simp) ?_
 intro ac hA Qf hQ hQn
 unfold slices_isNaN_string at hF
 refine ws fun K101 hK101 => ?_
 refine x_m hA rfl fun ac hA => ?_
 refine wn (hK101 _ _ ?_)
 refine ws fun K102 hK102 => ?_
 refine x_m hA rfl fun ac hA => ?_
 refine x_m hA rfl fun ac hA => ?_
 refine x_v hA (r_neS rfl (hA.ev rfl) (hA.ev rfl)) rfl fun ac hA => ?_
 refine x_m hA rfl fun ac hA => ?_
 refine wn (hK102 _ _ ?_)
 refine wp_ret ?_
 cases hF
 refine hQ _ _ ?_
 refine lv Tryz.results69 hA rfl ?_
 exact ⟨rfl, hS⟩
theorem F_cmp_Less_string {r : World} {L : List HP} {w : World} (a0 : (List UInt8)) (a1 : (List UInt8)) {y : (Bool)} (hF : cmp_Less_string a0 a1 = some y) (hS : SH r (L) w) :
  Ret Tryz.prog 68 #[str a0, str a1] w fun v w' => v = .bool y ∧ SH r (L) w' := by
 refine enter Tryz.func68 rfl Tryz.ntmps68 [(0, str a0), (1, str a1)] rfl (by simp) ?_
 intro ac hA Qf hQ hQn
 unfold cmp_Less_string at hF
 refine ws fun K101 hK101 => ?_
 refine x_m hA rfl fun ac hA => ?_
 refine wn (hK101 _ _ ?_)
 refine ws fun K102 hK102 => ?_
 refine x_m hA rfl fun ac hA => ?_
 obtain ⟨y103, h104, hF⟩ := bnd hF
 refine x_call en87 hA (F_cmp_isNaN_string (L := L) a0 h104 hS) (fun v ac w hR hA => ?_) rfl rfl rfl rfl rfl
 obtain ⟨rfl, hS⟩ := hR
 refine x_m hA rfl fun ac hA => ?_
 refine bcase (b := y103) (fun hb105 => ?_) fun hb105 => ?_
 ·replace hF := ift hb105 hF
  refine x_on hb105 hA ?_ rfl rfl rfl
  refine x_m hA rfl fun ac hA => ?_
  refine x_on hb105 hA ?_ rfl rfl rfl
  obtain ⟨y106, h107, hF⟩ := bnd hF
  refine x_call en87 hA (F_cmp_isNaN_string (L := L) a1 h107 hS) (fun v ac w hR hA => ?_) rfl rfl rfl rfl rfl
  obtain ⟨rfl, hS⟩ := hR
  refine x_on hb105 hA ?_ rfl rfl rfl
  refine x_v hA (r_not rfl (hA.ev rfl)) rfl fun ac hA => ?_
  refine x_pickt hb105 hA (fun ac hA => ?_) rfl rfl rfl rfl rfl rfl
  refine x_m hA rfl fun ac hA => ?_
  refine bcase (b := !y106) (fun hb108 => ?_) fun hb108 => ?_
  ·replace hF := ift hb108 hF
   refine x_off hb108 hA (fun ac hA => ?_) rfl rfl rfl rfl rfl
   refine x_off hb108 hA (fun ac hA => ?_) rfl rfl rfl rfl rfl
   refine x_off hb108 hA (fun ac hA => ?_) rfl rfl rfl rfl rfl
   refine x_pickt hb108 hA (fun ac hA => ?_) rfl rfl rfl rfl rfl rfl
   refine x_m hA rfl fun ac hA => ?_
   refine wn (hK102 _ _ ?_)
   refine wp_ret ?_
   cases hF
   refine hQ _ _ ?_
   refine lv Tryz.results68 hA rfl ?_
   exact ⟨rfl, hS⟩
  replace hF := iff' hb108 hF
  refine x_on hb108 hA ?_ rfl rfl rfl
  refine x_m hA rfl fun ac hA => ?_
  refine x_on hb108 hA ?_ rfl rfl rfl
  refine x_m hA rfl fun ac hA => ?_
  refine x_on hb108 hA ?_ rfl rfl rfl
  refine x_v hA (r_ltS rfl (hA.ev rfl) (hA.ev rfl)) rfl fun ac hA => ?_
  refine x_pickf hb108 hA (fun ac hA => ?_) rfl rfl rfl rfl rfl rfl
  refine x_m hA rfl fun ac hA => ?_
  refine wn (hK102 _ _ ?_)
  refine wp_ret ?_
  cases hF
  refine hQ _ _ ?_
  refine lv Tryz.results68 hA rfl ?_
  exact ⟨rfl, hS⟩
 replace hF := iff' hb105 hF
 refine x_off hb105 hA (fun ac hA => ?_) rfl rfl rfl rfl rfl
 refine x_off hb105 hA (fun ac hA => ?_) rfl rfl rfl rfl rfl
 refine x_off hb105 hA (fun ac hA => ?_) rfl rfl rfl rfl rfl
 refine x_pickf hb105 hA (fun ac hA => ?_) rfl rfl rfl rfl rfl rfl
 refine x_m hA rfl fun ac hA => ?_
 refine x_on rfl hA ?_ rfl rfl rfl
 refine x_m hA rfl fun ac hA => ?_
 refine x_on rfl hA ?_ rfl rfl rfl
 refine x_m hA rfl fun ac hA => ?_
 refine x_on rfl hA ?_ rfl rfl rfl
 refine x_v hA (r_ltS rfl (hA.ev rfl) (hA.ev rfl)) rfl fun ac hA => ?_
 refine x_pickf rfl hA (fun ac hA => ?_) rfl rfl rfl rfl rfl rfl
 refine x_m hA rfl fun ac hA => ?_
 refine wn (hK102 _ _ ?_)
 refine wp_ret ?_
 cases hF
 refine hQ _ _ ?_
 refine lv Tryz.results68 hA rfl ?_
 exact ⟨rfl, hS⟩
theorem F_slices_BinarySearch_string_string {r : World} {L : List HP} {w : World} (a0 : (List (List UInt8))) (a1 : (List UInt8)) (A0 : Option Addr) (n0 : Nat) (c0 : Nat) {y : (Int × Bool)} (hF : slices_BinarySearch_string_string a0 a1 = some y) (ha0 : RdL L kS A0 n0 c0 a0) (hS : SH r (L) w) :
  Ret Tryz.prog 41 #[.slice A0 n0 c0, str a1] w fun v w' => v = .tuple #[(.int .i64 y.1), (.bool y.2)] ∧ SH r (L) w' := by
 refine enter Tryz.func41 rfl Tryz.ntmps41 [(0, .slice A0 n0 c0), (1, str a1)] rfl (by simp) ?_
 intro ac hA Qf hQ hQn
 unfold slices_BinarySearch_string_string at hF
 refine ws fun K101 hK101 => ?_
 refine x_m hA rfl fun ac hA => ?_
 refine x_m hA rfl fun ac hA => ?_
 refine wn (hK101 _ _ ?_)
 refine ws fun K102 hK102 => ?_
 refine x_m hA rfl fun ac hA => ?_
 refine x_len Tryz.underlying40 (hS.rdl 0 ha0 rfl).2.1 hA (fun ac hA => ?_) rfl rfl rfl rfl rfl
 refine x_m hA rfl fun ac hA => ?_
 refine wn (hK102 _ _ ?_)
 refine ws fun K103 hK103 => ?_
 refine x_m hA rfl fun ac hA => ?_
 refine x_m hA rfl fun ac hA => ?_
 refine x_m hA rfl fun ac hA => ?_
 refine wn (hK103 _ _ ?_)
 refine wp_seq_k fun K104 hK104 => ?_
 refine wp_block_k fun Kx382 hKx382 => ?_
 have hb1 : ∀ (x520 : Int), slices_BinarySearch_string_string_b1 a0 a1 x520 = some y → ∀ (ac : Act) (w : World), FR 54 [] ac [(0, .slice A0 n0 c0), (1, str a1), (6, .int .i64 (a0.length : Int)), (7, .int .i64 x520)] → SH r (L) w → Kx382 ac w := by
  intro x520 hF ac w hA hS
  unfold slices_BinarySearch_string_string_b1 at hF
  refine hKx382 _ _ ?_
  refine hK104 _ _ ?_
  refine ws fun K521 hK521 => ?_
  refine x_m hA rfl fun ac hA => ?_
  refine x_m hA rfl fun ac hA => ?_
  refine x_m hA rfl fun ac hA => ?_
  refine x_v hA (r_ltI rfl (hA.ev rfl) (hA.ev rfl)) rfl fun ac hA => ?_
  refine x_m hA rfl fun ac hA => ?_
  refine bcase (b := decide (x520 < (a0.length : Int))) (fun hb522 => ?_) fun hb522 => ?_
  ·replace hF := ift hb522 hF
   refine x_on hb522 hA ?_ rfl rfl rfl
   refine x_m hA rfl fun ac hA => ?_
   refine x_on hb522 hA ?_ rfl rfl rfl
   refine x_m hA rfl fun ac hA => ?_
   refine x_on hb522 hA ?_ rfl rfl rfl
   obtain ⟨x523, h524, hF⟩ := bnd hF
   refine x_ia Tryz.underlying40 sz9 (hS.rdl 0 ha0 rfl) h524 hA (fun ac hA => ?_) rfl rfl rfl rfl rfl rfl
   refine x_on hb522 hA ?_ rfl rfl rfl
   obtain ⟨cs, hV, hc525⟩ := el (hS.rdl 0 ha0 rfl) h524
   obtain rfl := hV
   refine x_ld Tryz.underlying9 (hc525 0 _ rfl) hA (fun ac hA => ?_) rfl rfl rfl rfl rfl rfl
   refine x_on hb522 hA ?_ rfl rfl rfl
   refine x_m hA rfl fun ac hA => ?_
   refine x_on hb522 hA ?_ rfl rfl rfl
   refine x_v hA (r_eqS rfl (hA.ev rfl) (hA.ev rfl)) rfl fun ac hA => ?_
   refine x_on hb522 hA ?_ rfl rfl rfl
   refine x_m hA rfl fun ac hA => ?_
   refine bcase (b := x523 == a1) (fun hb526 => ?_) fun hb526 => ?_
   ·replace hF := ift hb526 hF
    refine x_off hb526 hA (fun ac hA => ?_) rfl rfl rfl rfl rfl
    refine x_off hb526 hA (fun ac hA => ?_) rfl rfl rfl rfl rfl
    refine x_off hb526 hA (fun ac hA => ?_) rfl rfl rfl rfl rfl
    refine x_off hb526 hA (fun ac hA => ?_) rfl rfl rfl rfl rfl
    refine x_off hb526 hA (fun ac hA => ?_) rfl rfl rfl rfl rfl
    refine x_off hb526 hA (fun ac hA => ?_) rfl rfl rfl rfl rfl
    refine x_offU hA (fun ac hA => ?_) rfl rfl rfl rfl rfl
    refine x_offU hA (fun ac hA => ?_) rfl rfl rfl rfl rfl
    refine x_off hb526 hA (fun ac hA => ?_) rfl rfl rfl rfl rfl
    refine x_on hb522 hA ?_ rfl rfl rfl
    refine x_pickt hb526 hA (fun ac hA => ?_) rfl rfl rfl rfl rfl rfl
    refine x_pickt hb522 hA (fun ac hA => ?_) rfl rfl rfl rfl rfl rfl
    refine x_m hA rfl fun ac hA => ?_
    refine x_m hA rfl fun ac hA => ?_
    refine wn (hK521 _ _ ?_)
    refine wp_ret ?_
    cases hF
    refine hQ _ _ ?_
    refine lv2 Tryz.results41 hA rfl rfl ?_
    exact ⟨rfl, hS⟩
   replace hF := iff' hb526 hF
   refine x_on hb526 hA ?_ rfl rfl rfl
   refine x_m hA rfl fun ac hA => ?_
   refine x_on hb526 hA ?_ rfl rfl rfl
   refine x_m hA rfl fun ac hA => ?_
   refine x_on hb526 hA ?_ rfl rfl rfl
   refine x_ia Tryz.underlying40 sz9 (hS.rdl 0 ha0 rfl) h524 hA (fun ac hA => ?_) rfl rfl rfl rfl rfl rfl
   refine x_on hb526 hA ?_ rfl rfl rfl
   obtain ⟨cs, hV, hc527⟩ := el (hS.rdl 0 ha0 rfl) h524
   obtain rfl := hV
   refine x_ld Tryz.underlying9 (hc527 0 _ rfl) hA (fun ac hA => ?_) rfl rfl rfl rfl rfl rfl
   refine x_on hb526 hA ?_ rfl rfl rfl
   obtain ⟨y528, h529, hF⟩ := bnd hF
   refine x_call en69 hA (F_slices_isNaN_string (L := L) x523 h529 hS) (fun v ac w hR hA => ?_) rfl rfl rfl rfl rfl
   obtain ⟨rfl, hS⟩ := hR
   refine x_on hb526 hA ?_ rfl rfl rfl
   refine x_m hA rfl fun ac hA => ?_
   refine bcase (b := y528) (fun hb530 => ?_) fun hb530 => ?_
   ·replace hF := ift hb530 hF
    refine x_on hb530 hA ?_ rfl rfl rfl
    refine x_m hA rfl fun ac hA => ?_
    refine x_on hb530 hA ?_ rfl rfl rfl
    obtain ⟨y531, h532, hF⟩ := bnd hF
    refine x_call en69 hA (F_slices_isNaN_string (L := L) a1 h532 hS) (fun v ac w hR hA => ?_) rfl rfl rfl rfl rfl
    obtain ⟨rfl, hS⟩ := hR
    refine x_on hb526 hA ?_ rfl rfl rfl
    refine x_pickt hb530 hA (fun ac hA => ?_) rfl rfl rfl rfl rfl rfl
    refine x_on hb522 hA ?_ rfl rfl rfl
    refine x_pickf hb526 hA (fun ac hA => ?_) rfl rfl rfl rfl rfl rfl
    refine x_pickt hb522 hA (fun ac hA => ?_) rfl rfl rfl rfl rfl rfl
    refine x_m hA rfl fun ac hA => ?_
    refine x_m hA rfl fun ac hA => ?_
    refine wn (hK521 _ _ ?_)
    refine wp_ret ?_
    cases hF
    refine hQ _ _ ?_
    refine lv2 Tryz.results41 hA rfl rfl ?_
    exact ⟨rfl, hS⟩
   replace hF := iff' hb530 hF
   refine x_off hb530 hA (fun ac hA => ?_) rfl rfl rfl rfl rfl
   refine x_off hb530 hA (fun ac hA => ?_) rfl rfl rfl rfl rfl
   refine x_on hb526 hA ?_ rfl rfl rfl
   refine x_pickf hb530 hA (fun ac hA => ?_) rfl rfl rfl rfl rfl rfl
   refine x_on hb522 hA ?_ rfl rfl rfl
   refine x_pickf hb526 hA (fun ac hA => ?_) rfl rfl rfl rfl rfl rfl
   refine x_pickt hb522 hA (fun ac hA => ?_) rfl rfl rfl rfl rfl rfl
   refine x_m hA rfl fun ac hA => ?_
   refine x_m hA rfl fun ac hA => ?_
   refine wn (hK521 _ _ ?_)
   refine wp_ret ?_
   cases hF
   refine hQ _ _ ?_
   refine lv2 Tryz.results41 hA rfl rfl ?_
   exact ⟨rfl, hS⟩
  replace hF := iff' hb522 hF
  refine x_off hb522 hA (fun ac hA => ?_) rfl rfl rfl rfl rfl
  refine x_off hb522 hA (fun ac hA => ?_) rfl rfl rfl rfl rfl
  refine x_off hb522 hA (fun ac hA => ?_) rfl rfl rfl rfl rfl
  refine x_off hb522 hA (fun ac hA => ?_) rfl rfl rfl rfl rfl
  refine x_off hb522 hA (fun ac hA => ?_) rfl rfl rfl rfl rfl
  refine x_off hb522 hA (fun ac hA => ?_) rfl rfl rfl rfl rfl
  refine x_off hb522 hA (fun ac hA => ?_) rfl rfl rfl rfl rfl
  refine x_offU hA (fun ac hA => ?_) rfl rfl rfl rfl rfl
  refine x_offU hA (fun ac hA => ?_) rfl rfl rfl rfl rfl
  refine x_offU hA (fun ac hA => ?_) rfl rfl rfl rfl rfl
  refine x_offU hA (fun ac hA => ?_) rfl rfl rfl rfl rfl
  refine x_offU hA (fun ac hA => ?_) rfl rfl rfl rfl rfl
  refine x_offU hA (fun ac hA => ?_) rfl rfl rfl rfl rfl
  refine x_offU hA (fun ac hA => ?_) rfl rfl rfl rfl rfl
  refine x_offU hA (fun ac hA => ?_) rfl rfl rfl rfl rfl
  refine x_offU hA (fun ac hA => ?_) rfl rfl rfl rfl rfl
  refine x_off hb522 hA (fun ac hA => ?_) rfl rfl rfl rfl rfl
  refine x_pickf hb522 hA (fun ac hA => ?_) rfl rfl rfl rfl rfl rfl
  refine x_m hA rfl fun ac hA => ?_
  refine x_m hA rfl fun ac hA => ?_
  refine wn (hK521 _ _ ?_)
  refine wp_ret ?_
  cases hF
  refine hQ _ _ ?_
  refine lv2 Tryz.results41 hA rfl rfl ?_
  exact ⟨rfl, hS⟩
 obtain ⟨t625, hl625, hF⟩ := bnd hF
 have hx625_0 : ∀ (x625 : Int), (x625) = t625 → ∀ (ac : Act) (w : World), FR 54 [] ac [(0, .slice A0 n0 c0), (1, str a1), (6, .int .i64 (a0.length : Int)), (7, .int .i64 x625)] → SH r (L) w → Kx382 ac w := by
  intro x625 ht ac w hA hS
  subst ht
  replace hF : slices_BinarySearch_string_string_x1_0 a0 a1 x625 = some y := hF
  unfold slices_BinarySearch_string_string_x1_0 at hF
  exact hb1 x625 hF ac w (hA.sub _ rfl) hS
 refine wp_loop_fn hl625 (fun s ac w => FR 54 [] ac [(0, .slice A0 n0 c0), (1, str a1), (6, .int .i64 (a0.length : Int)), (7, .int .i64 s.1), (8, .int .i64 s.2)] ∧ SH r (L) w) ⟨hA.sub _ rfl, hS⟩ ?_
 intro N625 s625 o625 hF N625_ T625_ ac w hLab
 obtain ⟨x578, x579⟩ := s625
 replace hF : slices_BinarySearch_string_string_l1 a0 a1 x578 x579 = some o625 := hF
 unfold slices_BinarySearch_string_string_l1 at hF
 try dsimp only at hLab
 obtain ⟨hA, hS⟩ := hLab
 refine wp_seq_k fun K627 hK627 => ?_
 refine ws fun K628 hK628 => ?_
 refine x_m hA rfl fun ac hA => ?_
 refine x_m hA rfl fun ac hA => ?_
 refine x_v hA (r_ltI rfl (hA.ev rfl) (hA.ev rfl)) rfl fun ac hA => ?_
 refine wn (hK628 _ _ ?_)
 refine c_if hA rfl (fun hb629 => ?_) fun hb629 => ?_
 ·replace hF := ift hb629 hF
  refine wp_skip ?_
  refine hK627 _ _ ?_
  refine wp_block_k fun Kx630 hKx630 => ?_
  have hb2 : ∀ (x649 : Int) (x650 : Int), slices_BinarySearch_string_string_b2 x649 x650 = some o625 → ∀ (ac : Act) (w : World), FR 54 [] ac [(0, .slice A0 n0 c0), (1, str a1), (6, .int .i64 (a0.length : Int)), (7, .int .i64 x649), (8, .int .i64 x650)] → SH r (L) w → Kx630 ac w := by
   intro x649 x650 hF ac w hA hS
   unfold slices_BinarySearch_string_string_b2 at hF
   refine hKx630 _ _ ?_
   cases hF
   exact ⟨_, N625_ _ rfl, hA.sub _ rfl, hS⟩
  refine ws fun K651 hK651 => ?_
  refine x_m hA rfl fun ac hA => ?_
  refine x_m hA rfl fun ac hA => ?_
  obtain ⟨x652, h653, hF⟩ := ltt_ hF
  refine x_v (v := .int .i64 x652) hA (rv_i h653 (r_add rfl (hA.ev rfl) (hA.ev rfl))) rfl fun ac hA => ?_
  obtain ⟨x654, h655, hF⟩ := ltt_ hF
  refine x_v (v := .int .u64 x654) hA (rv_i h655 (r_convI Tryz.underlying3 Tryz.underlying101 rfl (hA.ev rfl))) rfl fun ac hA => ?_
  obtain ⟨x656, h657, hF⟩ := ltt_ hF
  refine x_v (v := .int .u64 x656) hA (rv_i h657 (r_shr rfl (hA.ev rfl) (hA.ev rfl) (by decide))) rfl fun ac hA => ?_
  obtain ⟨x658, h659, hF⟩ := ltt_ hF
  refine x_v (v := .int .i64 x658) hA (rv_i h659 (r_convI Tryz.underlying101 Tryz.underlying3 rfl (hA.ev rfl))) rfl fun ac hA => ?_
  refine x_m hA rfl fun ac hA => ?_
  refine wn (hK651 _ _ ?_)
  refine ws fun K660 hK660 => ?_
  refine x_m hA rfl fun ac hA => ?_
  refine x_m hA rfl fun ac hA => ?_
  obtain ⟨x661, h662, hF⟩ := bnd hF
  refine x_ia Tryz.underlying40 sz9 (hS.rdl 0 ha0 rfl) h662 hA (fun ac hA => ?_) rfl rfl rfl rfl rfl rfl
  obtain ⟨cs, hV, hc663⟩ := el (hS.rdl 0 ha0 rfl) h662
  obtain rfl := hV
  refine x_ld Tryz.underlying9 (hc663 0 _ rfl) hA (fun ac hA => ?_) rfl rfl rfl rfl rfl rfl
  refine x_m hA rfl fun ac hA => ?_
  obtain ⟨y664, h665, hF⟩ := bnd hF
  refine x_call en68 hA (F_cmp_Less_string (L := L) x661 a1 h665 hS) (fun v ac w hR hA => ?_) rfl rfl rfl rfl rfl
  obtain ⟨rfl, hS⟩ := hR
  refine wn (hK660 _ _ ?_)
  refine c_if hA rfl (fun hb666 => ?_) fun hb666 => ?_
  ·replace hF := ift hb666 hF
   refine wp_reg ?_
   refine x_m hA rfl fun ac hA => ?_
   obtain ⟨x667, h668, hF⟩ := ltt_ hF
   refine x_v (v := .int .i64 x667) hA (rv_i h668 (r_add rfl (hA.ev rfl) (hA.ev rfl))) rfl fun ac hA => ?_
   refine x_m hA rfl fun ac hA => ?_
   refine wpList_nil ?_
   exact hb2 x667 x579 hF ac w (hA.sub _ rfl) hS
  replace hF := iff' hb666 hF
  refine wp_reg ?_
  refine x_m hA rfl fun ac hA => ?_
  refine x_m hA rfl fun ac hA => ?_
  refine wpList_nil ?_
  exact hb2 x578 x658 hF ac w (hA.sub _ rfl) hS
 replace hF := iff' hb629 hF
 refine wp_exit ?_
 cases hF
 exact hx625_0 x578 (T625_ _ rfl) ac w (hA.sub _ rfl) hS
theorem F_r03_Texts {r : World} {L : List HP} {w : World} (a0 : (List (List UInt8))) (A0 : Option Addr) (n0 : Nat) (c0 : Nat) {y : ((List Int))} (hF : r03_Texts a0 = some y) (ha0 : RdL L kS A0 n0 c0 a0) (hS : SH r (L) w) :
  Ret Tryz.prog 28 #[.slice A0 n0 c0] w fun v w' => ∃ (B0 : Option Addr) (m0 : Nat) (d0 : Nat), v = .slice B0 m0 d0 ∧ SH r (own (kI .u8) 5 B0 m0 d0 y :: L) w' := by
 refine enter Tryz.func28 rfl Tryz.ntmps28 [(0, .slice A0 n0 c0)] rfl (by simp) ?_
 intro ac hA Qf hQ hQn
 unfold r03_Texts at hF
 refine ws fun K101 hK101 => ?_
 refine x_m hA rfl fun ac hA => ?_
 refine wn (hK101 _ _ ?_)
 refine ws fun K102 hK102 => ?_
 refine x_m hA rfl fun ac hA => ?_
 refine wn (hK102 _ _ ?_)
 refine wp_seq_k fun K103 hK103 => ?_
 refine ws fun K23567 hK23567 => ?_
 refine x_m hA rfl fun ac hA => ?_
 refine wn (hK23567 _ _ ?_)
 refine wp_block_k fun Kx23568 hKx23568 => ?_
 have hb1 : ∀ (l35297 : (List (List UInt8))), r03_Texts_b1 a0 l35297 = some y → ∀ (A35298 : Option Addr) (n35299 : Nat) (c35300 : Nat) (ac : Act) (w : World), FR 117 [] ac [(0, .slice A0 n0 c0), (3, .slice A35298 n35299 c35300)] → SH r (own kS 9 A35298 n35299 c35300 l35297 :: L) w → Kx23568 ac w := by
  intro l35297 hF A35298 n35299 c35300 ac w hA hS
  unfold r03_Texts_b1 at hF
  refine hKx23568 _ _ ?_
  refine hK103 _ _ ?_
  refine ws fun K35301 hK35301 => ?_
  refine x_m hA rfl fun ac hA => ?_
  refine x_len Tryz.underlying40 (hS.rd 0 rfl).2.1 hA (fun ac hA => ?_) rfl rfl rfl rfl rfl
  obtain ⟨x35302, h35303, hF⟩ := ltt_ hF
  refine x_v (v := .int .u64 x35302) hA (rv_i h35303 (r_convI Tryz.underlying3 Tryz.underlying34 rfl (hA.ev rfl))) rfl fun ac hA => ?_
  obtain ⟨y35304, h35305, hF⟩ := bnd hF
  refine x_call en56 hA (F_r03_Uint (L := own kS 9 A35298 n35299 c35300 l35297 :: L) x35302 h35305 hS) (fun v ac w hR hA => ?_) rfl rfl rfl rfl rfl
  obtain ⟨B35306, m35307, d35308, rfl, hS⟩ := hR
  refine x_m hA rfl fun ac hA => ?_
  refine wn (hK35301 _ _ ?_)
  refine wp_seq_k fun K35309 hK35309 => ?_
  refine ws fun K35471 hK35471 => ?_
  refine x_m hA rfl fun ac hA => ?_
  refine wn (hK35471 _ _ ?_)
  refine wp_block_k fun Kx35472 hKx35472 => ?_
  have hb2 : ∀ (l35550 : (List Int)), r03_Texts_b2 a0 l35297 l35550 = some y → ∀ (A35551 : Option Addr) (n35552 : Nat) (c35553 : Nat) (ac : Act) (w : World), FR 117 [] ac [(0, .slice A0 n0 c0), (3, .slice A35298 n35299 c35300), (8, .slice A35551 n35552 c35553)] → SH r (own kS 9 A35298 n35299 c35300 l35297 :: own (kI .u8) 5 A35551 n35552 c35553 l35550 :: L) w → Kx35472 ac w := by
   intro l35550 hF A35551 n35552 c35553 ac w hA hS
   unfold r03_Texts_b2 at hF
   refine hKx35472 _ _ ?_
   refine hK35309 _ _ ?_
   refine ws fun K35554 hK35554 => ?_
   refine x_m hA rfl fun ac hA => ?_
   refine wn (hK35554 _ _ ?_)
   refine wp_seq_k fun K35555 hK35555 => ?_
   refine ws fun K46875 hK46875 => ?_
   refine x_m hA rfl fun ac hA => ?_
   refine wn (hK46875 _ _ ?_)
   refine wp_block_k fun Kx46876 hKx46876 => ?_
   have hb3 : ∀ (l52533 : (List Int)), r03_Texts_b3 l35550 l52533 = some y → ∀ (A52534 : Option Addr) (n52535 : Nat) (c52536 : Nat) (ac : Act) (w : World), FR 117 [] ac [(8, .slice A35551 n35552 c35553), (10, .slice A52534 n52535 c52536)] → SH r (own (kI .u8) 5 A35551 n35552 c35553 l35550 :: own (kI .i64) 2 A52534 n52535 c52536 l52533 :: L) w → Kx46876 ac w := by
    intro l52533 hF A52534 n52535 c52536 ac w hA hS
    unfold r03_Texts_b3 at hF
    refine hKx46876 _ _ ?_
    refine hK35555 _ _ ?_
    refine ws fun K52537 hK52537 => ?_
    refine x_m hA rfl fun ac hA => ?_
    refine x_m hA rfl fun ac hA => ?_
    obtain ⟨y52538, h52539, hF⟩ := bnd hF
    refine x_call en27 hA (F_r03_Ints (L := own (kI .u8) 5 A35551 n35552 c35553 l35550 :: own (kI .i64) 2 A52534 n52535 c52536 l52533 :: L) l52533 A52534 n52535 c52536 h52539 (RdL.own 1 rfl (hS.dropN 0)) hS) (fun v ac w hR hA => ?_) rfl rfl rfl rfl rfl
    obtain ⟨B52540, m52541, d52542, rfl, hS⟩ := hR
    obtain ⟨h52543, hF⟩ := chk_some hF
    have hr := hS.rd 0 rfl
    refine x_app 1 inf5 Tryz.underlying22 hA hS hr.1 hr.2.1 h52543 rfl (fun A52544 n52545 c52546 ac w hS hA => ?_) rfl rfl rfl rfl rfl rfl rfl rfl rfl
    refine x_m hA rfl fun ac hA => ?_
    refine wn (hK52537 _ _ ?_)
    refine wp_ret ?_
    replace hS := hS.drop 1
    replace hS := hS.drop 1
    cases hF
    refine hQ _ _ ?_
    refine lv Tryz.results28 hA rfl ?_
    exact ⟨A52544, n52545, c52546, rfl, hS⟩
   obtain ⟨t56325, hl56325, hF⟩ := bnd hF
   have hx56325_6 : ∀ (l56322 : (List Int)), (l56322) = t56325 → ∀ (A56323 : Option Addr) (n56324 : Nat) (c56325 : Nat) (ac : Act) (w : World), FR 117 [] ac [(8, .slice A35551 n35552 c35553), (10, .slice A56323 n56324 c56325)] → SH r (own (kI .u8) 5 A35551 n35552 c35553 l35550 :: own (kI .i64) 2 A56323 n56324 c56325 l56322 :: L) w → Kx46876 ac w := by
    intro l56322 ht A56323 n56324 c56325 ac w hA hS
    subst ht
    replace hF : r03_Texts_x1_6 l35550 l56322 = some y := hF
    unfold r03_Texts_x1_6 at hF
    exact hb3 l56322 hF A56323 n56324 c56325 ac w (hA.sub _ rfl) hS
   replace hS := SH.nil_own (d := (kI .i64)) (e := 2) hS
   replace hS := hS.pk 2
   replace hS := hS.pk 2
   refine wp_loop_fn hl56325 (fun s ac w => ∃ (A54437 : Option Addr) (n54438 : Nat) (c54439 : Nat), FR 117 [] ac [(0, .slice A0 n0 c0), (3, .slice A35298 n35299 c35300), (8, .slice A35551 n35552 c35553), (10, .slice A54437 n54438 c54439), (11, .int .i64 s.2)] ∧ SH r (own kS 9 A35298 n35299 c35300 l35297 :: own (kI .u8) 5 A35551 n35552 c35553 l35550 :: own (kI .i64) 2 A54437 n54438 c54439 s.1 :: L) w) ⟨none, 0, 0, hA.sub _ rfl, hS⟩ ?_
   intro N56325 s56325 o56325 hF N56325_ T56325_ ac w hLab
   obtain ⟨l54436, x54440⟩ := s56325
   replace hF : r03_Texts_l1 a0 l35297 l54436 x54440 = some o56325 := hF
   unfold r03_Texts_l1 at hF
   try dsimp only at hLab
   obtain ⟨A54437, n54438, c54439, hA, hS⟩ := hLab
   refine wp_seq_k fun K56327 hK56327 => ?_
   refine ws fun K56328 hK56328 => ?_
   refine x_m hA rfl fun ac hA => ?_
   refine x_m hA rfl fun ac hA => ?_
   refine x_len Tryz.underlying40 (hS.rdl 3 ha0 rfl).2.1 hA (fun ac hA => ?_) rfl rfl rfl rfl rfl
   refine x_v hA (r_ltI rfl (hA.ev rfl) (hA.ev rfl)) rfl fun ac hA => ?_
   refine wn (hK56328 _ _ ?_)
   refine c_if hA rfl (fun hb56329 => ?_) fun hb56329 => ?_
   ·replace hF := ift hb56329 hF
    refine wp_skip ?_
    refine hK56327 _ _ ?_
    refine wp_seq_k fun K56330 hK56330 => ?_
    refine wp_block_k fun Kx57266 hKx57266 => ?_
    refine ws fun K57734 hK57734 => ?_
    refine x_m hA rfl fun ac hA => ?_
    refine wn (hK57734 _ _ ?_)
    refine wp_block_k fun Kx57735 hKx57735 => ?_
    have hb4 : ∀ (l57966 : (List Int)), r03_Texts_b4 x54440 l57966 = some o56325 → ∀ (A57967 : Option Addr) (n57968 : Nat) (c57969 : Nat) (ac : Act) (w : World), FR 117 [] ac [(0, .slice A0 n0 c0), (3, .slice A35298 n35299 c35300), (8, .slice A35551 n35552 c35553), (10, .slice A57967 n57968 c57969), (11, .int .i64 x54440)] → SH r (own kS 9 A35298 n35299 c35300 l35297 :: own (kI .u8) 5 A35551 n35552 c35553 l35550 :: own (kI .i64) 2 A57967 n57968 c57969 l57966 :: L) w → Kx57735 ac w := by
     intro l57966 hF A57967 n57968 c57969 ac w hA hS
     unfold r03_Texts_b4 at hF
     refine hKx57735 _ _ ?_
     refine hKx57266 _ _ ?_
     refine hK56330 _ _ ?_
     refine wp_reg ?_
     refine x_m hA rfl fun ac hA => ?_
     obtain ⟨x57970, h57971, hF⟩ := ltt_ hF
     refine x_v (v := .int .i64 x57970) hA (rv_i h57971 (r_add rfl (hA.ev rfl) (hA.ev rfl))) rfl fun ac hA => ?_
     refine x_m hA rfl fun ac hA => ?_
     refine wpList_nil ?_
     cases hF
     exact ⟨_, N56325_ _ rfl, A57967, n57968, c57969, hA.sub _ rfl, hS⟩
    obtain ⟨t58130, hl58130, hF⟩ := bnd hF
    have hx58130_8 : ∀ (l58127 : (List Int)), (l58127) = t58130 → ∀ (A58128 : Option Addr) (n58129 : Nat) (c58130 : Nat) (ac : Act) (w : World), FR 117 [] ac [(0, .slice A0 n0 c0), (3, .slice A35298 n35299 c35300), (8, .slice A35551 n35552 c35553), (10, .slice A58128 n58129 c58130), (11, .int .i64 x54440)] → SH r (own kS 9 A35298 n35299 c35300 l35297 :: own (kI .u8) 5 A35551 n35552 c35553 l35550 :: own (kI .i64) 2 A58128 n58129 c58130 l58127 :: L) w → Kx57735 ac w := by
     intro l58127 ht A58128 n58129 c58130 ac w hA hS
     subst ht
     replace hF : r03_Texts_x2_8 x54440 l58127 = some o56325 := hF
     unfold r03_Texts_x2_8 at hF
     exact hb4 l58127 hF A58128 n58129 c58130 ac w (hA.sub _ rfl) hS
    refine wp_loop_fn hl58130 (fun s ac w => ∃ (A58048 : Option Addr) (n58049 : Nat) (c58050 : Nat), FR 117 [] ac [(0, .slice A0 n0 c0), (3, .slice A35298 n35299 c35300), (8, .slice A35551 n35552 c35553), (10, .slice A58048 n58049 c58050), (11, .int .i64 x54440), (12, .int .i64 s.2)] ∧ SH r (own kS 9 A35298 n35299 c35300 l35297 :: own (kI .u8) 5 A35551 n35552 c35553 l35550 :: own (kI .i64) 2 A58048 n58049 c58050 s.1 :: L) w) ⟨A54437, n54438, c54439, hA.sub _ rfl, hS⟩ ?_
    intro N58130 s58130 o58130 hF N58130_ T58130_ ac w hLab
    obtain ⟨l58047, x58051⟩ := s58130
    replace hF : r03_Texts_l2 a0 l35297 x54440 l58047 x58051 = some o58130 := hF
    unfold r03_Texts_l2 at hF
    try dsimp only at hLab
    obtain ⟨A58048, n58049, c58050, hA, hS⟩ := hLab
    refine wp_seq_k fun K58132 hK58132 => ?_
    refine ws fun K58133 hK58133 => ?_
    refine x_m hA rfl fun ac hA => ?_
    refine x_m hA rfl fun ac hA => ?_
    refine x_len Tryz.underlying40 (hS.rd 0 rfl).2.1 hA (fun ac hA => ?_) rfl rfl rfl rfl rfl
    refine x_v hA (r_ltI rfl (hA.ev rfl) (hA.ev rfl)) rfl fun ac hA => ?_
    refine wn (hK58133 _ _ ?_)
    refine c_if hA rfl (fun hb58134 => ?_) fun hb58134 => ?_
    ·replace hF := ift hb58134 hF
     refine wp_skip ?_
     refine hK58132 _ _ ?_
     refine wp_seq_k fun K58135 hK58135 => ?_
     refine wp_block_k fun Kx58168 hKx58168 => ?_
     have hb5 : ∀ (l58182 : (List Int)), r03_Texts_b5 x58051 l58182 = some o58130 → ∀ (A58183 : Option Addr) (n58184 : Nat) (c58185 : Nat) (ac : Act) (w : World), FR 117 [] ac [(0, .slice A0 n0 c0), (3, .slice A35298 n35299 c35300), (8, .slice A35551 n35552 c35553), (10, .slice A58183 n58184 c58185), (11, .int .i64 x54440), (12, .int .i64 x58051)] → SH r (own kS 9 A35298 n35299 c35300 l35297 :: own (kI .u8) 5 A35551 n35552 c35553 l35550 :: own (kI .i64) 2 A58183 n58184 c58185 l58182 :: L) w → Kx58168 ac w := by
      intro l58182 hF A58183 n58184 c58185 ac w hA hS
      unfold r03_Texts_b5 at hF
      refine hKx58168 _ _ ?_
      refine hK58135 _ _ ?_
      refine wp_reg ?_
      refine x_m hA rfl fun ac hA => ?_
      obtain ⟨x58186, h58187, hF⟩ := ltt_ hF
      refine x_v (v := .int .i64 x58186) hA (rv_i h58187 (r_add rfl (hA.ev rfl) (hA.ev rfl))) rfl fun ac hA => ?_
      refine x_m hA rfl fun ac hA => ?_
      refine wpList_nil ?_
      cases hF
      exact ⟨_, N58130_ _ rfl, A58183, n58184, c58185, hA.sub _ rfl, hS⟩
     refine wp_seq_k fun K58188 hK58188 => ?_
     refine wp_draw [0, 0, 3, 7, 0, 0, 48, 112, 255] [] rfl hA hS (by kernel_rfl) (by kernel_rfl) (by kernel_rfl) (by kernel_rfl) fun w hS => ?_
     obtain ⟨x58189, h58190, hF⟩ := bnd hF
     obtain ⟨cs, hV, hc58191⟩ := el (hS.rd 0 rfl) h58190
     obtain rfl := hV
     obtain ⟨x58192, h58193, hF⟩ := bnd hF
     obtain ⟨cs, hV, hc58194⟩ := el (hS.rdl 3 ha0 rfl) h58193
     obtain rfl := hV
     refine ⟨[(0, .slice A35298 n35299 c35300), (1, .int .i64 x58051), (2, .pointer (some (ea A35298 (x58051.toNat * 1)))), (3, str x58189), (4, .slice A0 n0 c0), (5, .int .i64 x54440), (6, .pointer (some (ea A0 (x54440.toNat * 1)))), (7, str x58192), (8, .bool (x58189 == x58192))], ?_⟩
     refine dEnd [0, 1, 2, 3, 4, 5, 6, 7, 8] (by kernel_rfl) ⟨pu rfl rfl [(3, .slice A35298 n35299 c35300)] (fun ac hA => y_move hA rfl rfl) rfl rfl, pu rfl rfl [(12, .int .i64 x58051)] (fun ac hA => y_move hA rfl rfl) rfl rfl, pu rfl rfl [(100, .slice A35298 n35299 c35300), (101, .int .i64 x58051)] (fun ac hA => y_ia Tryz.underlying40 sz9 (hS.rd 0 rfl) h58190 hA rfl rfl rfl) rfl rfl, pu rfl rfl [(102, .pointer (some (ea A35298 (x58051.toNat * 1))))] (fun ac hA => y_ld Tryz.underlying9 (hc58191 0 _ rfl) hA rfl rfl rfl) rfl rfl, pu rfl rfl [(0, .slice A0 n0 c0)] (fun ac hA => y_move hA rfl rfl) rfl rfl, pu rfl rfl [(11, .int .i64 x54440)] (fun ac hA => y_move hA rfl rfl) rfl rfl, pu rfl rfl [(104, .slice A0 n0 c0), (105, .int .i64 x54440)] (fun ac hA => y_ia Tryz.underlying40 sz9 (hS.rdl 3 ha0 rfl) h58193 hA rfl rfl rfl) rfl rfl, pu rfl rfl [(106, .pointer (some (ea A0 (x54440.toNat * 1))))] (fun ac hA => y_ld Tryz.underlying9 (hc58194 0 _ rfl) hA rfl rfl rfl) rfl rfl, pu rfl rfl [(103, str x58189), (107, str x58192)] (fun ac hA => r_eqS rfl (hA.ev rfl) (hA.ev rfl)) rfl rfl, trivial⟩ ⟨by kernel_rfl, by kernel_rfl⟩ [(0, .slice A0 n0 c0), (3, .slice A35298 n35299 c35300), (8, .slice A35551 n35552 c35553), (10, .slice A58048 n58049 c58050), (11, .int .i64 x54440), (12, .int .i64 x58051), (108, .bool (x58189 == x58192))] rfl (fun ac hA => ?_)
     refine hK58188 _ _ ?_
     refine c_if hA rfl (fun hb58195 => ?_) fun hb58195 => ?_
     ·replace hF := ift hb58195 hF
      refine wp_reg ?_
      refine x_m hA rfl fun ac hA => ?_
      refine x_m hA rfl fun ac hA => ?_
      refine x_bsl (d := (kI .i64)) (e := 2) (ps := #[(0, .int .i64 x58051)]) (cells := [.int .i64 x58051]) (xs := [x58051]) (fun w => by kernel_rfl) rfl ⟨[.int .i64 x58051], _, rfl, rfl, rfl⟩ hA hS (fun g58196 ac w hS hA => ?_) rfl rfl rfl rfl rfl rfl
      obtain ⟨h58197, hF⟩ := chk_some hF
      have hr := hS.rd 0 rfl
      refine x_app 3 inf2 Tryz.underlying39 hA hS hr.1 hr.2.1 h58197 rfl (fun A58198 n58199 c58200 ac w hS hA => ?_) rfl rfl rfl rfl rfl rfl rfl rfl rfl
      refine x_m hA rfl fun ac hA => ?_
      refine wpList_nil ?_
      replace hS := hS.drop 1
      replace hS := hS.pk 2
      replace hS := hS.pk 2
      exact hb5 (l58047 ++ [x58051]) hF A58198 n58199 c58200 ac w (hA.sub _ rfl) hS
     replace hF := iff' hb58195 hF
     refine wp_skip ?_
     exact hb5 l58047 hF A58048 n58049 c58050 ac w (hA.sub _ rfl) hS
    replace hF := iff' hb58134 hF
    refine wp_exit ?_
    cases hF
    exact hx58130_8 l58047 (T58130_ _ rfl) A58048 n58049 c58050 ac w (hA.sub _ rfl) hS
   replace hF := iff' hb56329 hF
   refine wp_exit ?_
   replace hS := hS.drop 0
   cases hF
   exact hx56325_6 l54436 (T56325_ _ rfl) A54437 n54438 c54439 ac w (hA.sub _ rfl) hS
  obtain ⟨t58257, hl58257, hF⟩ := bnd hF
  have hx58257_4 : ∀ (l58254 : (List Int)), (l58254) = t58257 → ∀ (A58255 : Option Addr) (n58256 : Nat) (c58257 : Nat) (ac : Act) (w : World), FR 117 [] ac [(0, .slice A0 n0 c0), (3, .slice A35298 n35299 c35300), (8, .slice A58255 n58256 c58257)] → SH r (own kS 9 A35298 n35299 c35300 l35297 :: own (kI .u8) 5 A58255 n58256 c58257 l58254 :: L) w → Kx35472 ac w := by
   intro l58254 ht A58255 n58256 c58257 ac w hA hS
   subst ht
   replace hF : r03_Texts_x3_4 a0 l35297 l58254 = some y := hF
   unfold r03_Texts_x3_4 at hF
   exact hb2 l58254 hF A58255 n58256 c58257 ac w (hA.sub _ rfl) hS
  replace hS := hS.pk 1
  refine wp_loop_fn hl58257 (fun s ac w => ∃ (A58226 : Option Addr) (n58227 : Nat) (c58228 : Nat), FR 117 [] ac [(0, .slice A0 n0 c0), (3, .slice A35298 n35299 c35300), (8, .slice A58226 n58227 c58228), (9, .int .i64 s.2)] ∧ SH r (own kS 9 A35298 n35299 c35300 l35297 :: own (kI .u8) 5 A58226 n58227 c58228 s.1 :: L) w) ⟨B35306, m35307, d35308, hA.sub _ rfl, hS⟩ ?_
  intro N58257 s58257 o58257 hF N58257_ T58257_ ac w hLab
  obtain ⟨l58225, x58229⟩ := s58257
  replace hF : r03_Texts_l3 l35297 l58225 x58229 = some o58257 := hF
  unfold r03_Texts_l3 at hF
  try dsimp only at hLab
  obtain ⟨A58226, n58227, c58228, hA, hS⟩ := hLab
  refine wp_seq_k fun K58259 hK58259 => ?_
  refine ws fun K58260 hK58260 => ?_
  refine x_m hA rfl fun ac hA => ?_
  refine x_m hA rfl fun ac hA => ?_
  refine x_len Tryz.underlying40 (hS.rd 0 rfl).2.1 hA (fun ac hA => ?_) rfl rfl rfl rfl rfl
  refine x_v hA (r_ltI rfl (hA.ev rfl) (hA.ev rfl)) rfl fun ac hA => ?_
  refine wn (hK58260 _ _ ?_)
  refine c_if hA rfl (fun hb58261 => ?_) fun hb58261 => ?_
  ·replace hF := ift hb58261 hF
   refine wp_skip ?_
   refine hK58259 _ _ ?_
   refine wp_seq_k fun K58262 hK58262 => ?_
   refine wp_block_k fun Kx58263 hKx58263 => ?_
   refine wp_reg ?_
   refine x_m hA rfl fun ac hA => ?_
   refine x_m hA rfl fun ac hA => ?_
   refine x_m hA rfl fun ac hA => ?_
   obtain ⟨x58264, h58265, hF⟩ := bnd hF
   refine x_ia Tryz.underlying40 sz9 (hS.rd 0 rfl) h58265 hA (fun ac hA => ?_) rfl rfl rfl rfl rfl rfl
   obtain ⟨cs, hV, hc58266⟩ := el (hS.rd 0 rfl) h58265
   obtain rfl := hV
   refine x_ld Tryz.underlying9 (hc58266 0 _ rfl) hA (fun ac hA => ?_) rfl rfl rfl rfl rfl rfl
   obtain ⟨y58267, h58268, hF⟩ := bnd hF
   refine x_call en26 hA (F_r03_Text (L := own kS 9 A35298 n35299 c35300 l35297 :: own (kI .u8) 5 A58226 n58227 c58228 l58225 :: L) x58264 h58268 hS) (fun v ac w hR hA => ?_) rfl rfl rfl rfl rfl
   obtain ⟨B58269, m58270, d58271, rfl, hS⟩ := hR
   obtain ⟨h58272, hF⟩ := chk_some hF
   have hr := hS.rd 0 rfl
   refine x_app 2 inf5 Tryz.underlying22 hA hS hr.1 hr.2.1 h58272 rfl (fun A58273 n58274 c58275 ac w hS hA => ?_) rfl rfl rfl rfl rfl rfl rfl rfl rfl
   refine x_m hA rfl fun ac hA => ?_
   refine wpList_nil ?_
   refine hKx58263 _ _ ?_
   refine hK58262 _ _ ?_
   refine wp_reg ?_
   refine x_m hA rfl fun ac hA => ?_
   obtain ⟨x58276, h58277, hF⟩ := ltt_ hF
   refine x_v (v := .int .i64 x58276) hA (rv_i h58277 (r_add rfl (hA.ev rfl) (hA.ev rfl))) rfl fun ac hA => ?_
   refine x_m hA rfl fun ac hA => ?_
   refine wpList_nil ?_
   replace hS := hS.drop 1
   replace hS := hS.pk 1
   cases hF
   exact ⟨_, N58257_ _ rfl, A58273, n58274, c58275, hA.sub _ rfl, hS⟩
  replace hF := iff' hb58261 hF
  refine wp_exit ?_
  cases hF
  exact hx58257_4 l58225 (T58257_ _ rfl) A58226 n58227 c58228 ac w (hA.sub _ rfl) hS
 obtain ⟨t66104, hl66104, hF⟩ := bnd hF
 have hx66104_0 : ∀ (l66101 : (List (List UInt8))), (l66101) = t66104 → ∀ (A66102 : Option Addr) (n66103 : Nat) (c66104 : Nat) (ac : Act) (w : World), FR 117 [] ac [(0, .slice A0 n0 c0), (3, .slice A66102 n66103 c66104)] → SH r (own kS 9 A66102 n66103 c66104 l66101 :: L) w → Kx23568 ac w := by
  intro l66101 ht A66102 n66103 c66104 ac w hA hS
  subst ht
  replace hF : r03_Texts_x4_0 a0 l66101 = some y := hF
  unfold r03_Texts_x4_0 at hF
  exact hb1 l66101 hF A66102 n66103 c66104 ac w (hA.sub _ rfl) hS
 replace hS := SH.nil_own (d := kS) (e := 9) hS
 refine wp_loop_fn hl66104 (fun s ac w => ∃ (A62192 : Option Addr) (n62193 : Nat) (c62194 : Nat), FR 117 [] ac [(0, .slice A0 n0 c0), (3, .slice A62192 n62193 c62194), (4, .int .i64 s.2)] ∧ SH r (own kS 9 A62192 n62193 c62194 s.1 :: L) w) ⟨none, 0, 0, hA.sub _ rfl, hS⟩ ?_
 intro N66104 s66104 o66104 hF N66104_ T66104_ ac w hLab
 obtain ⟨l62191, x62195⟩ := s66104
 replace hF : r03_Texts_l4 a0 l62191 x62195 = some o66104 := hF
 unfold r03_Texts_l4 at hF
 try dsimp only at hLab
 obtain ⟨A62192, n62193, c62194, hA, hS⟩ := hLab
 refine wp_seq_k fun K66106 hK66106 => ?_
 refine ws fun K66107 hK66107 => ?_
 refine x_m hA rfl fun ac hA => ?_
 refine x_m hA rfl fun ac hA => ?_
 refine x_len Tryz.underlying40 (hS.rdl 1 ha0 rfl).2.1 hA (fun ac hA => ?_) rfl rfl rfl rfl rfl
 refine x_v hA (r_ltI rfl (hA.ev rfl) (hA.ev rfl)) rfl fun ac hA => ?_
 refine wn (hK66107 _ _ ?_)
 refine c_if hA rfl (fun hb66108 => ?_) fun hb66108 => ?_
 ·replace hF := ift hb66108 hF
  refine wp_skip ?_
  refine hK66106 _ _ ?_
  refine wp_seq_k fun K66109 hK66109 => ?_
  refine wp_block_k fun Kx66110 hKx66110 => ?_
  refine ws fun K66111 hK66111 => ?_
  refine x_m hA rfl fun ac hA => ?_
  refine wn (hK66111 _ _ ?_)
  refine ws fun K66112 hK66112 => ?_
  refine x_m hA rfl fun ac hA => ?_
  refine wn (hK66112 _ _ ?_)
  refine wp_seq_k fun K66113 hK66113 => ?_
  refine ws fun K68046 hK68046 => ?_
  refine x_m hA rfl fun ac hA => ?_
  refine wn (hK68046 _ _ ?_)
  refine wp_block_k fun Kx68047 hKx68047 => ?_
  have hb6 : ∀ (l69010 : (List (List UInt8))) (b69014 : Bool), r03_Texts_b6 a0 x62195 l69010 b69014 = some o66104 → ∀ (A69011 : Option Addr) (n69012 : Nat) (c69013 : Nat) (ac : Act) (w : World), FR 117 [] ac [(0, .slice A0 n0 c0), (4, .int .i64 x62195), (5, .slice A69011 n69012 c69013), (6, .bool b69014)] → SH r (own kS 9 A69011 n69012 c69013 l69010 :: L) w → Kx68047 ac w := by
   intro l69010 b69014 hF A69011 n69012 c69013 ac w hA hS
   unfold r03_Texts_b6 at hF
   refine hKx68047 _ _ ?_
   refine hK66113 _ _ ?_
   refine wp_seq_k fun K69015 hK69015 => ?_
   have hj1 : ∀ (l69026 : (List (List UInt8))), r03_Texts_j1 x62195 l69026 = some o66104 → ∀ (A69027 : Option Addr) (n69028 : Nat) (c69029 : Nat) (ac : Act) (w : World), FR 117 [] ac [(0, .slice A0 n0 c0), (4, .int .i64 x62195), (5, .slice A69027 n69028 c69029)] → SH r (own kS 9 A69027 n69028 c69029 l69026 :: L) w → K69015 ac w := by
    intro l69026 hF A69027 n69028 c69029 ac w hA hS
    unfold r03_Texts_j1 at hF
    refine hK69015 _ _ ?_
    refine wp_reg ?_
    refine x_m hA rfl fun ac hA => ?_
    refine x_m hA rfl fun ac hA => ?_
    refine wpList_nil ?_
    refine hKx66110 _ _ ?_
    refine hK66109 _ _ ?_
    refine wp_reg ?_
    refine x_m hA rfl fun ac hA => ?_
    obtain ⟨x69030, h69031, hF⟩ := ltt_ hF
    refine x_v (v := .int .i64 x69030) hA (rv_i h69031 (r_add rfl (hA.ev rfl) (hA.ev rfl))) rfl fun ac hA => ?_
    refine x_m hA rfl fun ac hA => ?_
    refine wpList_nil ?_
    cases hF
    exact ⟨_, N66104_ _ rfl, A69027, n69028, c69029, hA.sub _ rfl, hS⟩
   refine ws fun K69032 hK69032 => ?_
   refine x_m hA rfl fun ac hA => ?_
   refine x_v hA (r_not rfl (hA.ev rfl)) rfl fun ac hA => ?_
   refine wn (hK69032 _ _ ?_)
   refine c_if hA rfl (fun hb69033 => ?_) fun hb69033 => ?_
   ·replace hF := ift hb69033 hF
    refine wp_reg ?_
    refine x_m hA rfl fun ac hA => ?_
    refine x_m hA rfl fun ac hA => ?_
    refine x_m hA rfl fun ac hA => ?_
    obtain ⟨x69034, h69035, hF⟩ := bnd hF
    refine x_ia Tryz.underlying40 sz9 (hS.rdl 1 ha0 rfl) h69035 hA (fun ac hA => ?_) rfl rfl rfl rfl rfl rfl
    obtain ⟨cs, hV, hc69036⟩ := el (hS.rdl 1 ha0 rfl) h69035
    obtain rfl := hV
    refine x_ld Tryz.underlying9 (hc69036 0 _ rfl) hA (fun ac hA => ?_) rfl rfl rfl rfl rfl rfl
    refine x_bsl (d := kS) (e := 9) (ps := #[(0, str x69034)]) (cells := [str x69034]) (xs := [x69034]) (fun w => by kernel_rfl) rfl ⟨[str x69034], _, rfl, rfl, rfl⟩ hA hS (fun g69037 ac w hS hA => ?_) rfl rfl rfl rfl rfl rfl
    obtain ⟨h69038, hF⟩ := chk_some hF
    have hr := hS.rd 0 rfl
    refine x_app 1 inf9 Tryz.underlying40 hA hS hr.1 hr.2.1 h69038 rfl (fun A69039 n69040 c69041 ac w hS hA => ?_) rfl rfl rfl rfl rfl rfl rfl rfl rfl
    refine x_m hA rfl fun ac hA => ?_
    refine wpList_nil ?_
    replace hS := hS.drop 1
    exact hj1 (l69010 ++ [x69034]) hF A69039 n69040 c69041 ac w (hA.sub _ rfl) hS
   replace hF := iff' hb69033 hF
   refine wp_skip ?_
   exact hj1 l69010 hF A69011 n69012 c69013 ac w (hA.sub _ rfl) hS
  obtain ⟨t69682, hl69682, hF⟩ := bnd hF
  have hx69682_2 : ∀ (l69678 : (List (List UInt8))) (b69682 : Bool), (l69678, b69682) = t69682 → ∀ (A69679 : Option Addr) (n69680 : Nat) (c69681 : Nat) (ac : Act) (w : World), FR 117 [] ac [(0, .slice A0 n0 c0), (4, .int .i64 x62195), (5, .slice A69679 n69680 c69681), (6, .bool b69682)] → SH r (own kS 9 A69679 n69680 c69681 l69678 :: L) w → Kx68047 ac w := by
   intro l69678 b69682 ht A69679 n69680 c69681 ac w hA hS
   subst ht
   replace hF : r03_Texts_x5_2 a0 x62195 l69678 b69682 = some o66104 := hF
   unfold r03_Texts_x5_2 at hF
   exact hb6 l69678 b69682 hF A69679 n69680 c69681 ac w (hA.sub _ rfl) hS
  replace hS := SH.nil_own (d := kS) (e := 9) hS
  replace hS := hS.pk 1
  refine wp_loop_fn hl69682 (fun s ac w => ∃ (A69347 : Option Addr) (n69348 : Nat) (c69349 : Nat), FR 117 [] ac [(0, .slice A0 n0 c0), (3, .slice A62192 n62193 c62194), (4, .int .i64 x62195), (5, .slice A69347 n69348 c69349), (6, .bool s.2.1), (7, .int .i64 s.2.2)] ∧ SH r (own kS 9 A62192 n62193 c62194 l62191 :: own kS 9 A69347 n69348 c69349 s.1 :: L) w) ⟨none, 0, 0, hA.sub _ rfl, hS⟩ ?_
  intro N69682 s69682 o69682 hF N69682_ T69682_ ac w hLab
  obtain ⟨l69346, b69350, x69351⟩ := s69682
  replace hF : r03_Texts_l5 a0 l62191 x62195 l69346 b69350 x69351 = some o69682 := hF
  unfold r03_Texts_l5 at hF
  try dsimp only at hLab
  obtain ⟨A69347, n69348, c69349, hA, hS⟩ := hLab
  refine wp_seq_k fun K69684 hK69684 => ?_
  refine ws fun K69685 hK69685 => ?_
  refine x_m hA rfl fun ac hA => ?_
  refine x_m hA rfl fun ac hA => ?_
  refine x_len Tryz.underlying40 (hS.rd 0 rfl).2.1 hA (fun ac hA => ?_) rfl rfl rfl rfl rfl
  refine x_v hA (r_ltI rfl (hA.ev rfl) (hA.ev rfl)) rfl fun ac hA => ?_
  refine wn (hK69685 _ _ ?_)
  refine c_if hA rfl (fun hb69686 => ?_) fun hb69686 => ?_
  ·replace hF := ift hb69686 hF
   refine wp_skip ?_
   refine hK69684 _ _ ?_
   refine wp_seq_k fun K69687 hK69687 => ?_
   refine wp_block_k fun Kx69845 hKx69845 => ?_
   have hb7 : ∀ (l69921 : (List (List UInt8))) (b69925 : Bool), r03_Texts_b7 x69351 l69921 b69925 = some o69682 → ∀ (A69922 : Option Addr) (n69923 : Nat) (c69924 : Nat) (ac : Act) (w : World), FR 117 [] ac [(0, .slice A0 n0 c0), (3, .slice A62192 n62193 c62194), (4, .int .i64 x62195), (5, .slice A69922 n69923 c69924), (6, .bool b69925), (7, .int .i64 x69351)] → SH r (own kS 9 A62192 n62193 c62194 l62191 :: own kS 9 A69922 n69923 c69924 l69921 :: L) w → Kx69845 ac w := by
    intro l69921 b69925 hF A69922 n69923 c69924 ac w hA hS
    unfold r03_Texts_b7 at hF
    refine hKx69845 _ _ ?_
    refine hK69687 _ _ ?_
    refine wp_reg ?_
    refine x_m hA rfl fun ac hA => ?_
    obtain ⟨x69926, h69927, hF⟩ := ltt_ hF
    refine x_v (v := .int .i64 x69926) hA (rv_i h69927 (r_add rfl (hA.ev rfl) (hA.ev rfl))) rfl fun ac hA => ?_
    refine x_m hA rfl fun ac hA => ?_
    refine wpList_nil ?_
    cases hF
    exact ⟨_, N69682_ _ rfl, A69922, n69923, c69924, hA.sub _ rfl, hS⟩
   refine wp_seq_k fun K69928 hK69928 => ?_
   have hj2 : ∀ (l69956 : (List (List UInt8))) (b69960 : Bool), r03_Texts_j2 a0 l62191 x62195 x69351 l69956 b69960 = some o69682 → ∀ (A69957 : Option Addr) (n69958 : Nat) (c69959 : Nat) (ac : Act) (w : World), FR 117 [] ac [(0, .slice A0 n0 c0), (3, .slice A62192 n62193 c62194), (4, .int .i64 x62195), (5, .slice A69957 n69958 c69959), (6, .bool b69960), (7, .int .i64 x69351)] → SH r (own kS 9 A62192 n62193 c62194 l62191 :: own kS 9 A69957 n69958 c69959 l69956 :: L) w → K69928 ac w := by
    intro l69956 b69960 hF A69957 n69958 c69959 ac w hA hS
    unfold r03_Texts_j2 at hF
    refine hK69928 _ _ ?_
    refine wp_seq_k fun K69961 hK69961 => ?_
    refine wp_draw [0, 0, 3, 7, 0, 0, 48, 112, 255] [] rfl hA hS (by kernel_rfl) (by kernel_rfl) (by kernel_rfl) (by kernel_rfl) fun w hS => ?_
    obtain ⟨x69962, h69963, hF⟩ := bnd hF
    obtain ⟨cs, hV, hc69964⟩ := el (hS.rd 0 rfl) h69963
    obtain rfl := hV
    obtain ⟨x69965, h69966, hF⟩ := bnd hF
    obtain ⟨cs, hV, hc69967⟩ := el (hS.rdl 2 ha0 rfl) h69966
    obtain rfl := hV
    refine ⟨[(0, .slice A62192 n62193 c62194), (1, .int .i64 x69351), (2, .pointer (some (ea A62192 (x69351.toNat * 1)))), (3, str x69962), (4, .slice A0 n0 c0), (5, .int .i64 x62195), (6, .pointer (some (ea A0 (x62195.toNat * 1)))), (7, str x69965), (8, .bool (!(x69962 == x69965)))], ?_⟩
    refine dEnd [0, 1, 2, 3, 4, 5, 6, 7, 8] (by kernel_rfl) ⟨pu rfl rfl [(3, .slice A62192 n62193 c62194)] (fun ac hA => y_move hA rfl rfl) rfl rfl, pu rfl rfl [(7, .int .i64 x69351)] (fun ac hA => y_move hA rfl rfl) rfl rfl, pu rfl rfl [(45, .slice A62192 n62193 c62194), (46, .int .i64 x69351)] (fun ac hA => y_ia Tryz.underlying40 sz9 (hS.rd 0 rfl) h69963 hA rfl rfl rfl) rfl rfl, pu rfl rfl [(47, .pointer (some (ea A62192 (x69351.toNat * 1))))] (fun ac hA => y_ld Tryz.underlying9 (hc69964 0 _ rfl) hA rfl rfl rfl) rfl rfl, pu rfl rfl [(0, .slice A0 n0 c0)] (fun ac hA => y_move hA rfl rfl) rfl rfl, pu rfl rfl [(4, .int .i64 x62195)] (fun ac hA => y_move hA rfl rfl) rfl rfl, pu rfl rfl [(49, .slice A0 n0 c0), (50, .int .i64 x62195)] (fun ac hA => y_ia Tryz.underlying40 sz9 (hS.rdl 2 ha0 rfl) h69966 hA rfl rfl rfl) rfl rfl, pu rfl rfl [(51, .pointer (some (ea A0 (x62195.toNat * 1))))] (fun ac hA => y_ld Tryz.underlying9 (hc69967 0 _ rfl) hA rfl rfl rfl) rfl rfl, pu rfl rfl [(48, str x69962), (52, str x69965)] (fun ac hA => r_neS rfl (hA.ev rfl) (hA.ev rfl)) rfl rfl, trivial⟩ ⟨by kernel_rfl, by kernel_rfl⟩ [(0, .slice A0 n0 c0), (3, .slice A62192 n62193 c62194), (4, .int .i64 x62195), (5, .slice A69957 n69958 c69959), (6, .bool b69960), (7, .int .i64 x69351), (53, .bool (!(x69962 == x69965)))] rfl (fun ac hA => ?_)
    refine hK69961 _ _ ?_
    refine c_if hA rfl (fun hb69968 => ?_) fun hb69968 => ?_
    ·replace hF := ift hb69968 hF
     refine wp_reg ?_
     refine x_m hA rfl fun ac hA => ?_
     refine x_m hA rfl fun ac hA => ?_
     refine x_m hA rfl fun ac hA => ?_
     refine x_ia Tryz.underlying40 sz9 (hS.rd 0 rfl) h69963 hA (fun ac hA => ?_) rfl rfl rfl rfl rfl rfl
     obtain ⟨cs, hV, hc69969⟩ := el (hS.rd 0 rfl) h69963
     obtain rfl := hV
     refine x_ld Tryz.underlying9 (hc69969 0 _ rfl) hA (fun ac hA => ?_) rfl rfl rfl rfl rfl rfl
     refine x_bsl (d := kS) (e := 9) (ps := #[(0, str x69962)]) (cells := [str x69962]) (xs := [x69962]) (fun w => by kernel_rfl) rfl ⟨[str x69962], _, rfl, rfl, rfl⟩ hA hS (fun g69970 ac w hS hA => ?_) rfl rfl rfl rfl rfl rfl
     obtain ⟨h69971, hF⟩ := chk_some hF
     have hr := hS.rd 0 rfl
     refine x_app 2 inf9 Tryz.underlying40 hA hS hr.1 hr.2.1 h69971 rfl (fun A69972 n69973 c69974 ac w hS hA => ?_) rfl rfl rfl rfl rfl rfl rfl rfl rfl
     refine x_m hA rfl fun ac hA => ?_
     refine wpList_nil ?_
     replace hS := hS.drop 1
     replace hS := hS.pk 1
     exact hb7 (l69956 ++ [x69962]) b69960 hF A69972 n69973 c69974 ac w (hA.sub _ rfl) hS
    replace hF := iff' hb69968 hF
    refine wp_skip ?_
    exact hb7 l69956 b69960 hF A69957 n69958 c69959 ac w (hA.sub _ rfl) hS
   refine wp_seq_k fun K69975 hK69975 => ?_
   have hj3 : ∀ (b69983 : Bool), r03_Texts_j3 a0 l62191 x62195 l69346 b69350 x69351 b69983 = some o69682 → ∀ (ac : Act) (w : World), FR 117 [] ac [(0, .slice A0 n0 c0), (3, .slice A62192 n62193 c62194), (4, .int .i64 x62195), (5, .slice A69347 n69348 c69349), (6, .bool b69350), (7, .int .i64 x69351), (37, .bool b69983)] → SH r (own kS 9 A62192 n62193 c62194 l62191 :: own kS 9 A69347 n69348 c69349 l69346 :: L) w → K69975 ac w := by
    intro b69983 hF ac w hA hS
    unfold r03_Texts_j3 at hF
    refine hK69975 _ _ ?_
    refine c_if hA rfl (fun hb69984 => ?_) fun hb69984 => ?_
    ·replace hF := ift hb69984 hF
     refine ws fun K69985 hK69985 => ?_
     refine x_m hA rfl fun ac hA => ?_
     refine x_m hA rfl fun ac hA => ?_
     refine x_m hA rfl fun ac hA => ?_
     obtain ⟨x69986, h69987, hF⟩ := bnd hF
     refine x_ia Tryz.underlying40 sz9 (hS.rdl 2 ha0 rfl) h69987 hA (fun ac hA => ?_) rfl rfl rfl rfl rfl rfl
     obtain ⟨cs, hV, hc69988⟩ := el (hS.rdl 2 ha0 rfl) h69987
     obtain rfl := hV
     refine x_ld Tryz.underlying9 (hc69988 0 _ rfl) hA (fun ac hA => ?_) rfl rfl rfl rfl rfl rfl
     refine x_bsl (d := kS) (e := 9) (ps := #[(0, str x69986)]) (cells := [str x69986]) (xs := [x69986]) (fun w => by kernel_rfl) rfl ⟨[str x69986], _, rfl, rfl, rfl⟩ hA hS (fun g69989 ac w hS hA => ?_) rfl rfl rfl rfl rfl rfl
     obtain ⟨h69990, hF⟩ := chk_some hF
     have hr := hS.rd 0 rfl
     refine x_app 2 inf9 Tryz.underlying40 hA hS hr.1 hr.2.1 h69990 rfl (fun A69991 n69992 c69993 ac w hS hA => ?_) rfl rfl rfl rfl rfl rfl rfl rfl rfl
     refine x_m hA rfl fun ac hA => ?_
     refine wn (hK69985 _ _ ?_)
     refine wp_reg ?_
     refine x_m hA rfl fun ac hA => ?_
     refine wpList_nil ?_
     replace hS := hS.drop 1
     replace hS := hS.pk 1
     exact hj2 (l69346 ++ [x69986]) true hF A69991 n69992 c69993 ac w (hA.sub _ rfl) hS
    replace hF := iff' hb69984 hF
    refine wp_skip ?_
    exact hj2 l69346 b69350 hF A69347 n69348 c69349 ac w (hA.sub _ rfl) hS
   refine wp_draw [0, 1, 3, 7, 7, 31, 63, 7, 7, 391, 903, 2047, 4095] [] rfl hA hS (by kernel_rfl) (by kernel_rfl) (by kernel_rfl) (by kernel_rfl) fun w hS => ?_
   refine bcase (b := !b69350) (fun hb69994 => ?_) fun hb69994 => ?_
   ·replace hF := ift hb69994 hF
    obtain ⟨x69995, h69996, hF⟩ := bnd hF
    obtain ⟨cs, hV, hc69997⟩ := el (hS.rd 0 rfl) h69996
    obtain rfl := hV
    obtain ⟨x69998, h69999, hF⟩ := bnd hF
    obtain ⟨cs, hV, hc70000⟩ := el (hS.rdl 2 ha0 rfl) h69999
    obtain rfl := hV
    refine ⟨[(0, .bool b69350), (1, .bool (!b69350)), (2, .bool (!b69350)), (3, .slice A62192 n62193 c62194), (4, .int .i64 x69351), (5, .pointer (some (ea A62192 (x69351.toNat * 1)))), (6, str x69995), (7, .slice A0 n0 c0), (8, .int .i64 x62195), (9, .pointer (some (ea A0 (x62195.toNat * 1)))), (10, str x69998), (11, .bool (!Op.bytesLess x69995 x69998)), (12, .bool (!Op.bytesLess x69995 x69998))], ?_⟩
    refine dEnd [0, 1, 2, 3, 4, 5, 6, 7, 8, 9, 10, 11, 12] (by kernel_rfl) ⟨pu rfl rfl [(6, .bool b69350)] (fun ac hA => y_move hA rfl rfl) rfl rfl, pu rfl rfl [(25, .bool b69350)] (fun ac hA => r_not rfl (hA.ev rfl)) rfl rfl, pu rfl rfl [(26, .bool (!b69350))] (fun ac hA => y_move hA rfl rfl) rfl rfl, puOn rfl rfl rfl rfl [(3, .slice A62192 n62193 c62194), (27, .bool (!b69350))] rfl hb69994 (fun ac hA => y_move hA rfl rfl) rfl, puOn rfl rfl rfl rfl [(7, .int .i64 x69351), (27, .bool (!b69350))] rfl hb69994 (fun ac hA => y_move hA rfl rfl) rfl, puOn rfl rfl rfl rfl [(27, .bool (!b69350)), (28, .slice A62192 n62193 c62194), (29, .int .i64 x69351)] rfl hb69994 (fun ac hA => y_ia Tryz.underlying40 sz9 (hS.rd 0 rfl) h69996 hA rfl rfl rfl) rfl, puOn rfl rfl rfl rfl [(27, .bool (!b69350)), (30, .pointer (some (ea A62192 (x69351.toNat * 1))))] rfl hb69994 (fun ac hA => y_ld Tryz.underlying9 (hc69997 0 _ rfl) hA rfl rfl rfl) rfl, puOn rfl rfl rfl rfl [(0, .slice A0 n0 c0), (27, .bool (!b69350))] rfl hb69994 (fun ac hA => y_move hA rfl rfl) rfl, puOn rfl rfl rfl rfl [(4, .int .i64 x62195), (27, .bool (!b69350))] rfl hb69994 (fun ac hA => y_move hA rfl rfl) rfl, puOn rfl rfl rfl rfl [(27, .bool (!b69350)), (32, .slice A0 n0 c0), (33, .int .i64 x62195)] rfl hb69994 (fun ac hA => y_ia Tryz.underlying40 sz9 (hS.rdl 2 ha0 rfl) h69999 hA rfl rfl rfl) rfl, puOn rfl rfl rfl rfl [(27, .bool (!b69350)), (34, .pointer (some (ea A0 (x62195.toNat * 1))))] rfl hb69994 (fun ac hA => y_ld Tryz.underlying9 (hc70000 0 _ rfl) hA rfl rfl rfl) rfl, puOn rfl rfl rfl rfl [(27, .bool (!b69350)), (31, str x69995), (35, str x69998)] rfl hb69994 (fun ac hA => r_geS rfl (hA.ev rfl) (hA.ev rfl)) rfl, pu rfl rfl [(27, .bool (!b69350)), (36, .bool (!Op.bytesLess x69995 x69998))] (fun ac hA => y_pickt hb69994 hA rfl rfl rfl) rfl rfl, trivial⟩ ⟨by kernel_rfl, by kernel_rfl⟩ [(0, .slice A0 n0 c0), (3, .slice A62192 n62193 c62194), (4, .int .i64 x62195), (5, .slice A69347 n69348 c69349), (6, .bool b69350), (7, .int .i64 x69351), (28, .slice A62192 n62193 c62194), (29, .int .i64 x69351), (31, str x69995), (32, .slice A0 n0 c0), (33, .int .i64 x62195), (35, str x69998), (36, .bool (!Op.bytesLess x69995 x69998)), (37, .bool (!Op.bytesLess x69995 x69998))] rfl (fun ac hA => ?_)
    exact hj3 (!Op.bytesLess x69995 x69998) hF ac w (hA.sub _ rfl) hS
   replace hF := iff' hb69994 hF
   refine ⟨[(0, .bool b69350), (1, .bool (!b69350)), (2, .bool (!b69350)), (3, undef), (4, undef), (5, undef), (6, undef), (7, undef), (8, undef), (9, undef), (10, undef), (11, undef), (12, .bool false)], ?_⟩
   refine dEnd [0, 1, 2, 3, 4, 5, 6, 7, 8, 9, 10, 11, 12] (by kernel_rfl) ⟨pu rfl rfl [(6, .bool b69350)] (fun ac hA => y_move hA rfl rfl) rfl rfl, pu rfl rfl [(25, .bool b69350)] (fun ac hA => r_not rfl (hA.ev rfl)) rfl rfl, pu rfl rfl [(26, .bool (!b69350))] (fun ac hA => y_move hA rfl rfl) rfl rfl, puOff rfl rfl rfl rfl [(3, .slice A62192 n62193 c62194), (27, .bool (!b69350))] rfl hb69994 rfl, puOff rfl rfl rfl rfl [(7, .int .i64 x69351), (27, .bool (!b69350))] rfl hb69994 rfl, puOff rfl rfl rfl rfl [(27, .bool (!b69350)), (28, undef), (29, undef)] rfl hb69994 rfl, puOff rfl rfl rfl rfl [(27, .bool (!b69350)), (30, undef)] rfl hb69994 rfl, puOff rfl rfl rfl rfl [(0, .slice A0 n0 c0), (27, .bool (!b69350))] rfl hb69994 rfl, puOff rfl rfl rfl rfl [(4, .int .i64 x62195), (27, .bool (!b69350))] rfl hb69994 rfl, puOff rfl rfl rfl rfl [(27, .bool (!b69350)), (32, undef), (33, undef)] rfl hb69994 rfl, puOff rfl rfl rfl rfl [(27, .bool (!b69350)), (34, undef)] rfl hb69994 rfl, puOff rfl rfl rfl rfl [(27, .bool (!b69350)), (31, undef), (35, undef)] rfl hb69994 rfl, pu rfl rfl [(27, .bool (!b69350)), (36, undef)] (fun ac hA => y_pickf hb69994 hA rfl rfl rfl) rfl rfl, trivial⟩ ⟨by kernel_rfl, by kernel_rfl⟩ [(0, .slice A0 n0 c0), (3, .slice A62192 n62193 c62194), (4, .int .i64 x62195), (5, .slice A69347 n69348 c69349), (6, .bool b69350), (7, .int .i64 x69351), (37, .bool false)] rfl (fun ac hA => ?_)
   exact hj3 false hF ac w (hA.sub _ rfl) hS
  replace hF := iff' hb69686 hF
  refine wp_exit ?_
  replace hS := hS.drop 0
  cases hF
  exact hx69682_2 l69346 b69350 (T69682_ _ rfl) A69347 n69348 c69349 ac w (hA.sub _ rfl) hS
 replace hF := iff' hb66108 hF
 refine wp_exit ?_
 cases hF
 exact hx66104_0 l62191 (T66104_ _ rfl) A62192 n62193 c62194 ac w (hA.sub _ rfl) hS
theorem F_column_Texts {r : World} {L : List HP} {w : World} (a0 : (List (List UInt8))) (A0 : Option Addr) (n0 : Nat) (c0 : Nat) {y : ((List Int))} (hF : column_Texts a0 = some y) (ha0 : RdL L kS A0 n0 c0 a0) (hS : SH r (L) w) :
  Ret Tryz.prog 13 #[.slice A0 n0 c0] w fun v w' => ∃ (B0 : Option Addr) (m0 : Nat) (d0 : Nat), v = .slice B0 m0 d0 ∧ SH r (own (kI .u8) 5 B0 m0 d0 y :: L) w' := by
 refine enter Tryz.func13 rfl Tryz.ntmps13 [(0, .slice A0 n0 c0)] rfl (by simp) ?_
 intro ac hA Qf hQ hQn
 unfold column_Texts at hF
 refine ws fun K101 hK101 => ?_
 refine x_m hA rfl fun ac hA => ?_
 refine wn (hK101 _ _ ?_)
 refine ws fun K102 hK102 => ?_
 refine x_m hA rfl fun ac hA => ?_
 refine x_call en39 hA (F_slices_Values (L := L) (A := A0) (n := n0) (c := c0) hS) (fun v ac w hR hA => ?_) rfl rfl rfl rfl rfl
 obtain ⟨g103, rfl, hS⟩ := hR
 obtain ⟨y104, h105, hF⟩ := bnd hF
 refine x_call en38 hA (F_slices_Sorted (L := L) a0 h105 (RdL.sfx 0 rfl ha0) hS) (fun v ac w hR hA => ?_) rfl rfl rfl rfl rfl
 obtain ⟨A106, n107, c108, rfl, hS⟩ := hR
 obtain ⟨y109, h110, hF⟩ := bnd hF
 refine x_call en37 hA (F_slices_Compact (L := L) y104 h110 hS) (fun v ac w hR hA => ?_) rfl rfl rfl rfl rfl
 obtain ⟨A111, n112, c113, rfl, hS⟩ := hR
 refine x_m hA rfl fun ac hA => ?_
 refine wn (hK102 _ _ ?_)
 refine ws fun K114 hK114 => ?_
 refine x_m hA rfl fun ac hA => ?_
 refine x_len Tryz.underlying40 (hS.rd 0 rfl).2.1 hA (fun ac hA => ?_) rfl rfl rfl rfl rfl
 obtain ⟨x115, h116, hF⟩ := ltt_ hF
 refine x_v (v := .int .u64 x115) hA (rv_i h116 (r_convI Tryz.underlying3 Tryz.underlying34 rfl (hA.ev rfl))) rfl fun ac hA => ?_
 replace hS := SH.nil_own (d := (kI .u8)) (e := 5) hS
 obtain ⟨y117, h118, hF⟩ := bnd hF
 refine x_call en40 hA (F_column_Uint (L := own kS 9 A111 n112 c113 y109 :: L) [] x115 none 0 0 h118 hS) (fun v ac w hR hA => ?_) rfl rfl rfl rfl rfl
 obtain ⟨B119, m120, d121, rfl, hS⟩ := hR
 refine x_m hA rfl fun ac hA => ?_
 refine wn (hK114 _ _ ?_)
 refine wp_seq_k fun K122 hK122 => ?_
 refine ws fun K266 hK266 => ?_
 refine x_m hA rfl fun ac hA => ?_
 refine x_len Tryz.underlying40 (hS.rd 1 rfl).2.1 hA (fun ac hA => ?_) rfl rfl rfl rfl rfl
 refine x_m hA rfl fun ac hA => ?_
 refine wn (hK266 _ _ ?_)
 refine wp_block_k fun Kx267 hKx267 => ?_
 have hb1 : ∀ (l336 : (List Int)), column_Texts_b1 a0 y109 l336 = some y → ∀ (A337 : Option Addr) (n338 : Nat) (c339 : Nat) (ac : Act) (w : World), FR 51 [] ac [(0, .slice A0 n0 c0), (3, .slice A111 n112 c113), (4, .slice A337 n338 c339)] → SH r (own kS 9 A111 n112 c113 y109 :: own (kI .u8) 5 A337 n338 c339 l336 :: L) w → Kx267 ac w := by
  intro l336 hF A337 n338 c339 ac w hA hS
  unfold column_Texts_b1 at hF
  refine hKx267 _ _ ?_
  refine hK122 _ _ ?_
  refine ws fun K340 hK340 => ?_
  refine x_m hA rfl fun ac hA => ?_
  refine wn (hK340 _ _ ?_)
  refine wp_seq_k fun K341 hK341 => ?_
  refine ws fun K519 hK519 => ?_
  refine x_m hA rfl fun ac hA => ?_
  refine x_len Tryz.underlying40 (hS.rdl 2 ha0 rfl).2.1 hA (fun ac hA => ?_) rfl rfl rfl rfl rfl
  refine x_m hA rfl fun ac hA => ?_
  refine wn (hK519 _ _ ?_)
  refine wp_block_k fun Kx520 hKx520 => ?_
  have hb2 : ∀ (l606 : (List Int)), column_Texts_b2 l336 l606 = some y → ∀ (A607 : Option Addr) (n608 : Nat) (c609 : Nat) (ac : Act) (w : World), FR 51 [] ac [(4, .slice A337 n338 c339), (7, .slice A607 n608 c609)] → SH r (own (kI .u8) 5 A337 n338 c339 l336 :: own (kI .i64) 2 A607 n608 c609 l606 :: L) w → Kx520 ac w := by
   intro l606 hF A607 n608 c609 ac w hA hS
   unfold column_Texts_b2 at hF
   refine hKx520 _ _ ?_
   refine hK341 _ _ ?_
   refine ws fun K610 hK610 => ?_
   refine x_m hA rfl fun ac hA => ?_
   refine x_m hA rfl fun ac hA => ?_
   obtain ⟨y611, h612, hF⟩ := bnd hF
   refine x_call en12 hA (F_column_Ints (L := own (kI .u8) 5 A337 n338 c339 l336 :: own (kI .i64) 2 A607 n608 c609 l606 :: L) l606 A607 n608 c609 h612 (RdL.own 1 rfl (hS.dropN 0)) hS) (fun v ac w hR hA => ?_) rfl rfl rfl rfl rfl
   obtain ⟨B613, m614, d615, rfl, hS⟩ := hR
   obtain ⟨h616, hF⟩ := chk_some hF
   have hr := hS.rd 0 rfl
   refine x_app 1 inf5 Tryz.underlying22 hA hS hr.1 hr.2.1 h616 rfl (fun A617 n618 c619 ac w hS hA => ?_) rfl rfl rfl rfl rfl rfl rfl rfl rfl
   refine x_m hA rfl fun ac hA => ?_
   refine wn (hK610 _ _ ?_)
   refine wp_ret ?_
   replace hS := hS.drop 1
   replace hS := hS.drop 1
   cases hF
   refine hQ _ _ ?_
   refine lv Tryz.results13 hA rfl ?_
   exact ⟨A617, n618, c619, rfl, hS⟩
  obtain ⟨t684, hl684, hF⟩ := bnd hF
  have hx684_2 : ∀ (l681 : (List Int)), (l681) = t684 → ∀ (A682 : Option Addr) (n683 : Nat) (c684 : Nat) (ac : Act) (w : World), FR 51 [] ac [(4, .slice A337 n338 c339), (7, .slice A682 n683 c684)] → SH r (own (kI .u8) 5 A337 n338 c339 l336 :: own (kI .i64) 2 A682 n683 c684 l681 :: L) w → Kx520 ac w := by
   intro l681 ht A682 n683 c684 ac w hA hS
   subst ht
   replace hF : column_Texts_x1_2 l336 l681 = some y := hF
   unfold column_Texts_x1_2 at hF
   exact hb2 l681 hF A682 n683 c684 ac w (hA.sub _ rfl) hS
  replace hS := SH.nil_own (d := (kI .i64)) (e := 2) hS
  replace hS := hS.pk 2
  replace hS := hS.pk 2
  refine wp_loop_fn hl684 (fun s ac w => ∃ (A653 : Option Addr) (n654 : Nat) (c655 : Nat), FR 51 [] ac [(3, .slice A111 n112 c113), (4, .slice A337 n338 c339), (7, .slice A653 n654 c655), (30, .slice A0 n0 c0), (31, .int .i64 (a0.length : Int)), (32, .int .i64 s.2)] ∧ SH r (own kS 9 A111 n112 c113 y109 :: own (kI .u8) 5 A337 n338 c339 l336 :: own (kI .i64) 2 A653 n654 c655 s.1 :: L) w) ⟨none, 0, 0, hA.sub _ rfl, hS⟩ ?_
  intro N684 s684 o684 hF N684_ T684_ ac w hLab
  obtain ⟨l652, x656⟩ := s684
  replace hF : column_Texts_l1 a0 y109 l652 x656 = some o684 := hF
  unfold column_Texts_l1 at hF
  try dsimp only at hLab
  obtain ⟨A653, n654, c655, hA, hS⟩ := hLab
  refine ws fun K686 hK686 => ?_
  refine x_v hA (r_ltI rfl (hA.ev rfl) (hA.ev rfl)) rfl fun ac hA => ?_
  refine wn (hK686 _ _ ?_)
  refine wp_seq_k fun K687 hK687 => ?_
  refine c_if hA rfl (fun hb688 => ?_) fun hb688 => ?_
  ·replace hF := ift hb688 hF
   refine wp_skip ?_
   refine hK687 _ _ ?_
   refine wp_seq_k fun K689 hK689 => ?_
   refine wp_block_k fun Kx690 hKx690 => ?_
   refine ws fun K691 hK691 => ?_
   obtain ⟨x692, h693, hF⟩ := bnd hF
   refine x_ia Tryz.underlying40 sz9 (hS.rdl 3 ha0 rfl) h693 hA (fun ac hA => ?_) rfl rfl rfl rfl rfl rfl
   obtain ⟨cs, hV, hc694⟩ := el (hS.rdl 3 ha0 rfl) h693
   obtain rfl := hV
   refine x_ld Tryz.underlying9 (hc694 0 _ rfl) hA (fun ac hA => ?_) rfl rfl rfl rfl rfl rfl
   refine x_m hA rfl fun ac hA => ?_
   refine wn (hK691 _ _ ?_)
   refine ws fun K695 hK695 => ?_
   refine x_m hA rfl fun ac hA => ?_
   refine x_m hA rfl fun ac hA => ?_
   obtain ⟨y696, h697, hF⟩ := bnd hF
   refine x_call en41 hA (F_slices_BinarySearch_string_string (L := own kS 9 A111 n112 c113 y109 :: own (kI .u8) 5 A337 n338 c339 l336 :: own (kI .i64) 2 A653 n654 c655 l652 :: L) y109 x692 A111 n112 c113 h697 (RdL.own 0 rfl (hS.dropN 0)) hS) (fun v ac w hR hA => ?_) rfl rfl rfl rfl rfl
   obtain ⟨rfl, hS⟩ := hR
   refine x_m hA rfl fun ac hA => ?_
   refine x_v hA (r_extract rfl (hA.ev rfl) rfl) rfl fun ac hA => ?_
   refine x_v hA (r_extract rfl (hA.ev rfl) rfl) rfl fun ac hA => ?_
   refine x_m hA rfl fun ac hA => ?_
   refine x_m hA rfl fun ac hA => ?_
   refine wn (hK695 _ _ ?_)
   refine wp_reg ?_
   refine x_m hA rfl fun ac hA => ?_
   refine x_m hA rfl fun ac hA => ?_
   refine x_bsl (d := (kI .i64)) (e := 2) (ps := #[(0, .int .i64 y696.1)]) (cells := [.int .i64 y696.1]) (xs := [y696.1]) (fun w => by kernel_rfl) rfl ⟨[.int .i64 y696.1], _, rfl, rfl, rfl⟩ hA hS (fun g698 ac w hS hA => ?_) rfl rfl rfl rfl rfl rfl
   obtain ⟨h699, hF⟩ := chk_some hF
   have hr := hS.rd 0 rfl
   refine x_app 3 inf2 Tryz.underlying39 hA hS hr.1 hr.2.1 h699 rfl (fun A700 n701 c702 ac w hS hA => ?_) rfl rfl rfl rfl rfl rfl rfl rfl rfl
   refine x_m hA rfl fun ac hA => ?_
   refine wpList_nil ?_
   refine hKx690 _ _ ?_
   refine hK689 _ _ ?_
   refine wp_reg ?_
   obtain ⟨x703, h704, hF⟩ := ltt_ hF
   refine x_v (v := .int .i64 x703) hA (rv_i h704 (r_add rfl (hA.ev rfl) (hA.ev rfl))) rfl fun ac hA => ?_
   refine x_m hA rfl fun ac hA => ?_
   refine wpList_nil ?_
   replace hS := hS.drop 1
   replace hS := hS.pk 2
   replace hS := hS.pk 2
   cases hF
   exact ⟨_, N684_ _ rfl, A700, n701, c702, hA.sub _ rfl, hS⟩
  replace hF := iff' hb688 hF
  refine wp_exit ?_
  replace hS := hS.drop 0
  cases hF
  exact hx684_2 l652 (T684_ _ rfl) A653 n654 c655 ac w (hA.sub _ rfl) hS
 obtain ⟨t755, hl755, hF⟩ := bnd hF
 have hx755_0 : ∀ (l752 : (List Int)), (l752) = t755 → ∀ (A753 : Option Addr) (n754 : Nat) (c755 : Nat) (ac : Act) (w : World), FR 51 [] ac [(0, .slice A0 n0 c0), (3, .slice A111 n112 c113), (4, .slice A753 n754 c755)] → SH r (own kS 9 A111 n112 c113 y109 :: own (kI .u8) 5 A753 n754 c755 l752 :: L) w → Kx267 ac w := by
  intro l752 ht A753 n754 c755 ac w hA hS
  subst ht
  replace hF : column_Texts_x2_0 a0 y109 l752 = some y := hF
  unfold column_Texts_x2_0 at hF
  exact hb1 l752 hF A753 n754 c755 ac w (hA.sub _ rfl) hS
 replace hS := hS.pk 1
 refine wp_loop_fn hl755 (fun s ac w => ∃ (A727 : Option Addr) (n728 : Nat) (c729 : Nat), FR 51 [] ac [(0, .slice A0 n0 c0), (3, .slice A111 n112 c113), (4, .slice A727 n728 c729), (20, .slice A111 n112 c113), (21, .int .i64 (y109.length : Int)), (22, .int .i64 s.2)] ∧ SH r (own kS 9 A111 n112 c113 y109 :: own (kI .u8) 5 A727 n728 c729 s.1 :: L) w) ⟨B119, m120, d121, hA.sub _ rfl, hS⟩ ?_
 intro N755 s755 o755 hF N755_ T755_ ac w hLab
 obtain ⟨l726, x730⟩ := s755
 replace hF : column_Texts_l2 y109 l726 x730 = some o755 := hF
 unfold column_Texts_l2 at hF
 try dsimp only at hLab
 obtain ⟨A727, n728, c729, hA, hS⟩ := hLab
 refine ws fun K757 hK757 => ?_
 refine x_v hA (r_ltI rfl (hA.ev rfl) (hA.ev rfl)) rfl fun ac hA => ?_
 refine wn (hK757 _ _ ?_)
 refine wp_seq_k fun K758 hK758 => ?_
 refine c_if hA rfl (fun hb759 => ?_) fun hb759 => ?_
 ·replace hF := ift hb759 hF
  refine wp_skip ?_
  refine hK758 _ _ ?_
  refine wp_seq_k fun K760 hK760 => ?_
  refine wp_block_k fun Kx761 hKx761 => ?_
  refine ws fun K762 hK762 => ?_
  obtain ⟨x763, h764, hF⟩ := bnd hF
  refine x_ia Tryz.underlying40 sz9 (hS.rd 0 rfl) h764 hA (fun ac hA => ?_) rfl rfl rfl rfl rfl rfl
  obtain ⟨cs, hV, hc765⟩ := el (hS.rd 0 rfl) h764
  obtain rfl := hV
  refine x_ld Tryz.underlying9 (hc765 0 _ rfl) hA (fun ac hA => ?_) rfl rfl rfl rfl rfl rfl
  refine x_m hA rfl fun ac hA => ?_
  refine wn (hK762 _ _ ?_)
  refine wp_reg ?_
  refine x_m hA rfl fun ac hA => ?_
  refine x_m hA rfl fun ac hA => ?_
  replace hS := hS.pk 1
  obtain ⟨y766, h767, hF⟩ := bnd hF
  refine x_call en15 hA (F_column_Text (L := own kS 9 A111 n112 c113 y109 :: L) l726 x763 A727 n728 c729 h767 hS) (fun v ac w hR hA => ?_) rfl rfl rfl rfl rfl
  obtain ⟨B768, m769, d770, rfl, hS⟩ := hR
  refine x_m hA rfl fun ac hA => ?_
  refine wpList_nil ?_
  refine hKx761 _ _ ?_
  refine hK760 _ _ ?_
  refine wp_reg ?_
  obtain ⟨x771, h772, hF⟩ := ltt_ hF
  refine x_v (v := .int .i64 x771) hA (rv_i h772 (r_add rfl (hA.ev rfl) (hA.ev rfl))) rfl fun ac hA => ?_
  refine x_m hA rfl fun ac hA => ?_
  refine wpList_nil ?_
  replace hS := hS.pk 1
  cases hF
  exact ⟨_, N755_ _ rfl, B768, m769, d770, hA.sub _ rfl, hS⟩
 replace hF := iff' hb759 hF
 refine wp_exit ?_
 cases hF
 exact hx755_0 l726 (T755_ _ rfl) A727 n728 c729 ac w (hA.sub _ rfl) hS
end Go.Proofs.YthokgnonmcgkcaaGreatDoor.M
namespace Go.Proofs.YthokgnonmcgkcaaGreatDoor.M
open Go Go.RowKit Go.Proofs.YthokgnonmcgkcaaGreatDoor.E
set_option linter.unusedVariables false
set_option linter.unusedSimpArgs false
noncomputable def slices_Index_api_Errno_api_Errno_b1 : Option (Int) :=
  some (-1)
noncomputable def slices_Index_api_Errno_api_Errno_x1_0 : Option (Int) :=
  slices_Index_api_Errno_api_Errno_b1
noncomputable def slices_Index_api_Errno_api_Errno_l1 (a0 : (List Int)) (a1 : Int) (x262 : Int) : Option ((Int) ⊕ ((Unit) ⊕ (Int))) :=
  if (decide (x262 < (a0.length : Int))) = true then ((at_ a0 x262).bind fun x286 => (if (a1 == x286) = true then (some (.inr (.inr x262))) else (ltt (IntKind.i64.wrap (x262 + 1)) fun x291 => (some (.inl (x291)))))) else (some (.inr (.inl ())))
noncomputable def slices_Index_api_Errno_api_Errno (a0 : (List Int)) (a1 : Int) : Option (Int) :=
  (loop (fun s => slices_Index_api_Errno_api_Errno_l1 a0 a1 s) (0)).bind fun t => match t with | (.inl t) => slices_Index_api_Errno_api_Errno_x1_0 | (.inr t) => some t
noncomputable def slices_Contains_api_Errno_api_Errno (a0 : (List Int)) (a1 : Int) : Option (Bool) :=
  (slices_Index_api_Errno_api_Errno a0 a1).bind fun y103 => (some (decide (0 ≤ y103)))
noncomputable def event_Form (a0 : S37) (a1 : Int) : Option (Bool) :=
  if (decide (0 ≤ a0.f1)) = true then (if (decide (a0.f1 < a1)) = true then (if (decide (-1099511627776 ≤ a0.f2)) = true then (if (decide (a0.f2 ≤ 1099511627776)) = true then (if (decide ((a0.f3.length : Int) ≤ 32)) = true then (some (decide (a0.f0 < 1099511627776))) else (some false)) else (some false)) else (some false)) else (some false)) else (some false)
noncomputable def r06_Form (a0 : S37) (a1 : Int) : Option (Bool) :=
  if (decide (0 ≤ a0.f1)) = true then (if (decide (a0.f1 < a1)) = true then (if (decide (-1099511627776 ≤ a0.f2)) = true then (if (decide (a0.f2 ≤ 1099511627776)) = true then (if (decide ((a0.f3.length : Int) ≤ 32)) = true then (some (decide (a0.f0 < 1099511627776))) else (some false)) else (some false)) else (some false)) else (some false)) else (some false)
noncomputable def r06_Same (a0 : S37) (a1 : S37) : Option (Bool) :=
  if (a0.f0 == a1.f0) = true then (if (a0.f1 == a1.f1) = true then (if (a0.f2 == a1.f2) = true then (if (a0.f3 == a1.f3) = true then ((r01_Same a0.f4 a1.f4).bind fun y109 => (some y109)) else (some false)) else (some false)) else (some false)) else (some false)
noncomputable def r06_SameAll_b1 : Option (Bool) :=
  some true
noncomputable def r06_SameAll_x1_0 : Option (Bool) :=
  r06_SameAll_b1
noncomputable def r06_SameAll_l1 (a0 : (List S37)) (a1 : (List S37)) (x286 : Int) : Option ((Int) ⊕ ((Unit) ⊕ (Bool))) :=
  if (decide (x286 < (a0.length : Int))) = true then ((at_ a0 x286).bind fun x311 => ((at_ a1 x286).bind fun x314 => ((r06_Same x311 x314).bind fun y317 => (if (!y317) = true then (some (.inr (.inr false))) else (some (.inl (IntKind.i64.wrap (x286 + 1)))))))) else (some (.inr (.inl ())))
noncomputable def r06_SameAll (a0 : (List S37)) (a1 : (List S37)) : Option (Bool) :=
  if ((a0.length : Int) != (a1.length : Int)) = true then (some false) else ((loop (fun s => r06_SameAll_l1 a0 a1 s) (0)).bind fun t => match t with | (.inl t) => r06_SameAll_x1_0 | (.inr t) => some t)
noncomputable def event_Read_1_b1 (l237 : (List Int)) (l242 : (List (List Int))) : Option ((S86 × (List (List Int))) ⊕ (S86 × (List (List Int)))) :=
  some (.inl ((⟨l237⟩ : S86), l242))
noncomputable def event_Read_1_x1_0 (l334 : (List Int)) (l339 : (List (List Int))) : Option ((S86 × (List (List Int))) ⊕ (S86 × (List (List Int)))) :=
  event_Read_1_b1 l334 l339
noncomputable def event_Read_1_l1 (l285 : (List Int)) (l290 : (List (List Int))) (x291 : Int) : Option (((List Int) × (List (List Int)) × Int) ⊕ (((List Int) × (List (List Int))) ⊕ ((S86 × (List (List Int))) ⊕ (S86 × (List (List Int)))))) :=
  if (decide (x291 < 5)) = true then ((column_Reader_Text (⟨l285⟩ : S86) 1048576).bind fun y347 => (sum_ y347 (fun y347 => (chk (y347.1.length ≤ maxLen) ((at_ l290 x291).bind fun x361 => (ltt (IntKind.i64.wrap (x291 + 1)) fun x368 => (some (.inl (y347.2.f0, l290.set x291.toNat (stb y347.1), x368))))))) (fun y347 => (some (.inr (.inr (.inr (y347, l290)))))))) else (some (.inr (.inl (l285, l290))))
noncomputable def event_Read_1 (a0 : S86) (a1 : (List (List Int))) : Option ((S86 × (List (List Int))) ⊕ (S86 × (List (List Int)))) :=
  (loop (fun s => event_Read_1_l1 s.1 s.2.1 s.2.2) (a0.f0, a1, 0)).bind fun t => match t with | (.inl t) => event_Read_1_x1_0 t.1 t.2 | (.inr t) => some t
noncomputable def Try_event_Read_1 (a0 : (List Int)) (a60 : (List (List Int))) : Option (Bool × (List (List Int))) :=
  (event_Read_1 (⟨a0⟩ : S86) a60).bind fun y => (sum_ y (fun y => some ((((y.1.f0.length : Int) == 0), y.2))) (fun y => some ((false, y.2))))
noncomputable def event_Read_b1 (y103 : (Int × (List Int) × Int × Int)) (l697 : (List S37)) : Option ((List S37) × Int × Int) :=
  some (l697, y103.2.2.1, 0)
noncomputable def event_Read_x1_0 (y103 : (Int × (List Int) × Int × Int)) (l811 : (List S37)) : Option ((List S37) × Int × Int) :=
  event_Read_b1 y103 l811
noncomputable def event_Read_l1 (a2 : Int) (y145 : ((List Int) × Int)) (y158 : ((List Int) × Int)) (y171 : ((List Int) × Int)) (y184 : ((List (List UInt8)) × Int)) (y197 : ((List Nat) × Int)) (l758 : (List S37)) (x762 : Int) : Option (((List S37) × Int) ⊕ (((List S37)) ⊕ ((List S37) × Int × Int))) :=
  if (decide (x762 < (y145.1.length : Int))) = true then ((at_ y145.1 x762).bind fun x823 => (ltt (IntKind.u64.wrap x823) fun x826 => ((at_ y158.1 x762).bind fun x828 => ((at_ y171.1 x762).bind fun x831 => ((at_ y184.1 x762).bind fun x834 => ((at_ y197.1 x762).bind fun x837 => ((event_Form (⟨x826, x828, x831, x834, x837⟩ : S37) a2).bind fun y848 => (if (!y848) = true then (some (.inr (.inr ([], 0, 3)))) else (chk (l758.length + [(⟨x826, x828, x831, x834, x837⟩ : S37)].length ≤ 140737488355328 / 48) (ltt (IntKind.i64.wrap (x762 + 1)) fun x857 => (some (.inl (l758 ++ [(⟨x826, x828, x831, x834, x837⟩ : S37)], x857))))))))))))) else (some (.inr (.inl (l758))))
noncomputable def event_Read_j2 (a2 : Int) (y103 : (Int × (List Int) × Int × Int)) (y145 : ((List Int) × Int)) (y158 : ((List Int) × Int)) (y171 : ((List Int) × Int)) (y184 : ((List (List UInt8)) × Int)) (y197 : ((List Nat) × Int)) (b212 : Bool) : Option ((List S37) × Int × Int) :=
  if b212 = true then (some ([], 0, 3)) else ((loop (fun s => event_Read_l1 a2 y145 y158 y171 y184 y197 s.1 s.2) ([], 0)).bind fun t => match t with | (.inl t) => event_Read_x1_0 y103 t | (.inr t) => some t)
noncomputable def event_Read_j1 (a2 : Int) (y103 : (Int × (List Int) × Int × Int)) (l131 : (List (List Int))) (b132 : Bool) : Option ((List S37) × Int × Int) :=
  if (!b132) = true then (some ([], 0, 3)) else ((at_ l131 0).bind fun x138 => ((column_ReadInts x138).bind fun y145 => ((at_ l131 1).bind fun x151 => ((column_ReadInts x151).bind fun y158 => ((at_ l131 2).bind fun x164 => ((column_ReadInts x164).bind fun y171 => ((at_ l131 3).bind fun x177 => ((column_ReadTexts x177).bind fun y184 => ((at_ l131 4).bind fun x190 => ((column_ReadReals x190).bind fun y197 => ((slices_Contains_api_Errno_api_Errno [y145.2, y158.2, y171.2, y184.2, y197.2] 3).bind fun y860 => (if y860 = true then (event_Read_j2 a2 y103 y145 y158 y171 y184 y197 true) else (if ((y158.1.length : Int) != (y145.1.length : Int)) = true then (event_Read_j2 a2 y103 y145 y158 y171 y184 y197 true) else (if ((y171.1.length : Int) != (y145.1.length : Int)) = true then (event_Read_j2 a2 y103 y145 y158 y171 y184 y197 true) else (if ((y184.1.length : Int) != (y145.1.length : Int)) = true then (event_Read_j2 a2 y103 y145 y158 y171 y184 y197 true) else (event_Read_j2 a2 y103 y145 y158 y171 y184 y197 ((y197.1.length : Int) != (y145.1.length : Int))))))))))))))))))
noncomputable def event_Read (a0 : (List Int)) (a1 : Int) (a2 : Int) : Option ((List S37) × Int × Int) :=
  (page_Read a0 a1).bind fun y103 => (if (y103.2.2.2 != 0) = true then (some ([], 0, y103.2.2.2)) else (if (y103.1 == 101) = true then ((Try_event_Read_1 y103.2.1 ([[], [], [], [], []] : List (List Int))).bind fun y872 => (event_Read_j1 a2 y103 y872.2 y872.1)) else (event_Read_j1 a2 y103 ([[], [], [], [], []] : List (List Int)) false)))
end Go.Proofs.YthokgnonmcgkcaaGreatDoor.M
