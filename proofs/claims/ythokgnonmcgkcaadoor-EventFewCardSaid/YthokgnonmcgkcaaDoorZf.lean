/- Texts of the claim, joined: what it uses of Mtx, Va, Dst0, Vb, Dst, Mst, Dev. -/
import Derived.Test.YthokgnonmcgkcaaDoorZe
import Derived.Test.YthokgnonmcgkcaaDoorProg
import Derived.Shelf.SlIter.Sorted
import Derived.Shelf.Sort.Plain
import Derived.Shelf.Slices.In.SortNone
import Derived.Shelf.Slices.CompactS
import Derived.KernelRfl
namespace Go.Proofs.YthokgnonmcgkcaaDoor.M
open Go Go.RowKit Go.Proofs.YthokgnonmcgkcaaDoor.E
set_option linter.unusedVariables false
set_option linter.unusedSimpArgs false
set_option maxRecDepth 100000 in
set_option maxHeartbeats 4000000 in
theorem F_slices_Index_bool_bool {r : World} {L : List HP} {w : World} (a0 : (List Bool)) (a1 : Bool) (A0 : Option Addr) (n0 : Nat) (c0 : Nat) {y : (Int)} (hF : slices_Index_bool_bool a0 a1 = some y) (ha0 : RdL L kB A0 n0 c0 a0) (hS : SH r (L) w) :
    Ret Tryd.prog 69 #[.slice A0 n0 c0, .bool a1] w fun v w' => v = .int .i64 y ∧ SH r (L) w' := by
  refine enter Tryd.func69 rfl Tryd.ntmps69 [(0, .slice A0 n0 c0), (1, .bool a1)] rfl (by simp) ?_
  intro ac hA Qf hQ hQn
  unfold slices_Index_bool_bool at hF
  refine wp_seq_k fun K101 hK101 => ?_
  refine wp_reg ?_
  refine x_assign hA (fun ac hA => ?_) rfl rfl rfl rfl rfl
  refine wpList_nil ?_
  refine hK101 _ _ ?_
  refine wp_seq_k fun K102 hK102 => ?_
  refine wp_seq_k fun K198 hK198 => ?_
  refine wp_reg ?_
  refine x_move hA (fun ac hA => ?_) rfl rfl rfl rfl rfl
  refine x_len Tryd.underlying90 (hS.rdl 0 ha0 rfl).2.1 hA (fun ac hA => ?_) rfl rfl rfl rfl rfl
  refine x_move hA (fun ac hA => ?_) rfl rfl rfl rfl rfl
  refine wpList_nil ?_
  refine hK198 _ _ ?_
  refine wp_block_k fun Kx199 hKx199 => ?_
  have hb1 : slices_Index_bool_bool_b1 = some y → ∀ (ac : Act) (w : World), FR 19 [] ac [] → SH r (L) w → Kx199 ac w := by
    intro hF ac w hA hS
    unfold slices_Index_bool_bool_b1 at hF
    refine hKx199 _ _ ?_
    refine hK102 _ _ ?_
    refine wp_seq_k fun K246 hK246 => ?_
    refine wp_reg ?_
    refine x_assign hA (fun ac hA => ?_) rfl rfl rfl rfl rfl
    refine wpList_nil ?_
    refine hK246 _ _ ?_
    refine wp_ret ?_
    cases hF
    refine hQ _ _ ?_
    refine lv Tryd.results69 hA rfl ?_
    exact ⟨rfl, hS⟩
  obtain ⟨t277, hl277, hF⟩ := bnd hF
  have hR277 := hF
  have hx277_0 : (.inl ()) = t277 → ∀ (ac : Act) (w : World), FR 19 [] ac [] → SH r (L) w → Kx199 ac w := by
    intro ht ac w hA hS
    subst ht
    replace hF : slices_Index_bool_bool_x1_0 = some y := hF
    unfold slices_Index_bool_bool_x1_0 at hF
    exact hb1 hF ac w (hA.sub _ rfl) hS
  refine wp_loop_fn hl277 (fun s ac w => FR 19 [] ac [(0, .slice A0 n0 c0), (1, .bool a1), (7, .int .i64 (a0.length : Int)), (8, .int .i64 s)] ∧ SH r (L) w) ⟨hA.sub _ rfl, hS⟩ ?_
  intro N277 s277 o277 hF N277_ T277_ ac w hLab
  obtain ⟨x262, rfl⟩ : ∃ q, q = s277 := ⟨_, rfl⟩
  replace hF : slices_Index_bool_bool_l1 a0 a1 x262 = some o277 := hF
  unfold slices_Index_bool_bool_l1 at hF
  try dsimp only at hLab
  obtain ⟨hA, hS⟩ := hLab
  refine wp_seq_k fun K279 hK279 => ?_
  refine wp_reg ?_
  refine x_val hA (r_ltI rfl (hA.ev rfl) (hA.ev rfl)) (fun ac hA => ?_) rfl rfl rfl
  refine wpList_nil ?_
  refine hK279 _ _ ?_
  refine wp_seq_k fun K280 hK280 => ?_
  refine c_if hA rfl (fun hb281 => ?_) fun hb281 => ?_
  · replace hF := ift hb281 hF
    refine wp_skip ?_
    refine hK280 _ _ ?_
    refine wp_seq_k fun K282 hK282 => ?_
    refine wp_block_k fun Kx283 hKx283 => ?_
    refine wp_seq_k fun K284 hK284 => ?_
    refine wp_reg ?_
    refine x_move hA (fun ac hA => ?_) rfl rfl rfl rfl rfl
    refine x_assign hA (fun ac hA => ?_) rfl rfl rfl rfl rfl
    refine wpList_nil ?_
    refine hK284 _ _ ?_
    refine wp_seq_k fun K285 hK285 => ?_
    refine wp_reg ?_
    refine x_move hA (fun ac hA => ?_) rfl rfl rfl rfl rfl
    refine x_move hA (fun ac hA => ?_) rfl rfl rfl rfl rfl
    refine x_move hA (fun ac hA => ?_) rfl rfl rfl rfl rfl
    obtain ⟨x286, h287, hF⟩ := bnd hF
    refine x_ia Tryd.underlying90 sz4 (hS.rdl 0 ha0 rfl) h287 hA (fun ac hA => ?_) rfl rfl rfl rfl rfl rfl
    obtain ⟨cs, hV, hc288⟩ := el (hS.rdl 0 ha0 rfl) h287
    obtain rfl := hV
    refine x_ld Tryd.underlying4 (hc288 0 _ rfl) hA (fun ac hA => ?_) rfl rfl rfl rfl rfl rfl
    refine x_val hA (r_eqB Tryd.underlying4 rfl (hA.ev rfl) (hA.ev rfl)) (fun ac hA => ?_) rfl rfl rfl
    refine wpList_nil ?_
    refine hK285 _ _ ?_
    refine c_if hA rfl (fun hb289 => ?_) fun hb289 => ?_
    · replace hF := ift hb289 hF
      refine wp_seq_k fun K290 hK290 => ?_
      refine wp_reg ?_
      refine x_move hA (fun ac hA => ?_) rfl rfl rfl rfl rfl
      refine x_assign hA (fun ac hA => ?_) rfl rfl rfl rfl rfl
      refine wpList_nil ?_
      refine hK290 _ _ ?_
      refine wp_ret ?_
      cases hF
      have ht := T277_ _ rfl
      subst ht
      replace hF := hR277
      replace hF : some x262 = some y := hF
      cases hF
      refine hQ _ _ ?_
      refine lv Tryd.results69 hA rfl ?_
      exact ⟨rfl, hS⟩
    replace hF := iff' hb289 hF
    refine wp_skip ?_
    refine hKx283 _ _ ?_
    refine hK282 _ _ ?_
    refine wp_reg ?_
    obtain ⟨x291, h292, hF⟩ := ltt_ hF
    refine x_val (v := .int .i64 x291) hA (rv_i h292 (r_add rfl (hA.ev rfl) (hA.ev rfl))) (fun ac hA => ?_) rfl rfl rfl
    refine x_move hA (fun ac hA => ?_) rfl rfl rfl rfl rfl
    refine wpList_nil ?_
    cases hF
    exact ⟨_, N277_ _ rfl, hA.sub _ rfl, hS⟩
  replace hF := iff' hb281 hF
  refine wp_exit ?_
  cases hF
  exact hx277_0 (T277_ _ rfl) ac w (hA.sub _ rfl) hS
set_option maxRecDepth 100000 in
set_option maxHeartbeats 4000000 in
theorem F_slices_Contains_bool_bool {r : World} {L : List HP} {w : World} (a0 : (List Bool)) (a1 : Bool) (A0 : Option Addr) (n0 : Nat) (c0 : Nat) {y : (Bool)} (hF : slices_Contains_bool_bool a0 a1 = some y) (ha0 : RdL L kB A0 n0 c0 a0) (hS : SH r (L) w) :
    Ret Tryd.prog 46 #[.slice A0 n0 c0, .bool a1] w fun v w' => v = .bool y ∧ SH r (L) w' := by
  refine enter Tryd.func46 rfl Tryd.ntmps46 [(0, .slice A0 n0 c0), (1, .bool a1)] rfl (by simp) ?_
  intro ac hA Qf hQ hQn
  unfold slices_Contains_bool_bool at hF
  refine wp_seq_k fun K101 hK101 => ?_
  refine wp_reg ?_
  refine x_assign hA (fun ac hA => ?_) rfl rfl rfl rfl rfl
  refine wpList_nil ?_
  refine hK101 _ _ ?_
  refine wp_seq_k fun K102 hK102 => ?_
  refine wp_reg ?_
  refine x_move hA (fun ac hA => ?_) rfl rfl rfl rfl rfl
  refine x_move hA (fun ac hA => ?_) rfl rfl rfl rfl rfl
  obtain ⟨y103, h104, hF⟩ := bnd hF
  refine x_call en69 hA (F_slices_Index_bool_bool (L := L) a0 a1 A0 n0 c0 h104 (RdL.sfx 0 rfl ha0) hS) (fun v ac w hR hA => ?_) rfl rfl rfl rfl rfl
  obtain ⟨rfl, hS⟩ := hR
  refine x_val hA (r_geI rfl (hA.ev rfl) (hA.ev rfl)) (fun ac hA => ?_) rfl rfl rfl
  refine x_assign hA (fun ac hA => ?_) rfl rfl rfl rfl rfl
  refine wpList_nil ?_
  refine hK102 _ _ ?_
  refine wp_ret ?_
  cases hF
  refine hQ _ _ ?_
  refine lv Tryd.results46 hA rfl ?_
  exact ⟨rfl, hS⟩
set_option maxRecDepth 100000 in
set_option maxHeartbeats 4000000 in
theorem F_column_ReadTexts_1 {r : World} {L : List HP} {w : World} {Z : Nat → Prop} {wz : World} (a0 : S86) (a1 : (List (List UInt8))) (g0 : Nat) (g1 : Nat) {y : ((S86 × (List (List UInt8))) ⊕ (S86 × (List (List UInt8))))} (hF : column_ReadTexts_1 a0 a1 = some y) (qz : Nat) (hZ : L[qz]? = some (zone Z wz)) (hS : SH r (obj86 Z wz g0 a0 :: obj50 g1 a1 :: L) w) :
    RetS Tryd.prog 45 #[.pointer (some ⟨g0, 0, none⟩), .pointer (some ⟨g1, 0, none⟩)] w badC y (fun y v w' => v = .tuple #[] ∧ SH r (obj86 Z wz g0 y.1 :: obj50 g1 y.2 :: L) w') (fun y w' => SH r (obj86 Z wz g0 y.1 :: obj50 g1 y.2 :: L) w') := by
  refine enterS Tryd.func45 rfl Tryd.ntmps45 [(0, .pointer (some ⟨g0, 0, none⟩)), (1, .pointer (some ⟨g1, 0, none⟩))] rfl (by simp) ?_
  intro ac hA Qf hQ hQn hQp
  unfold column_ReadTexts_1 at hF
  obtain ⟨A101, n102, c103, hS⟩ := obj86_open hS
  replace hS := hS.pk 1
  have hQ0 := SH.unpure hS
  clear hS
  obtain ⟨h104, hS⟩ := hQ0
  replace hS := hS.pk 1
  obtain ⟨A105, n106, c107, hS⟩ := obj50_open hS
  refine wp_seq_k fun K108 hK108 => ?_
  refine wp_reg ?_
  refine x_assign hA (fun ac hA => ?_) rfl rfl rfl rfl rfl
  refine wpList_nil ?_
  refine hK108 _ _ ?_
  refine wp_seq_k fun K109 hK109 => ?_
  refine wp_seq_k fun K720 hK720 => ?_
  refine wp_reg ?_
  refine x_move hA (fun ac hA => ?_) rfl rfl rfl rfl rfl
  replace hS := SH.pure_ h104 hS
  replace hS := hS.pk 3
  replace hS := obj86_mk (x := a0) hS
  obtain ⟨y721, h722, hF⟩ := bnd hF
  rcases y721 with y721 | y721
  rotate_left
  · replace hF := sum_r hF
    refine x_callp (vs := #[.pointer (some ⟨g0, 0, none⟩), .int .u64 4096]) en41 hA (RetS.rf (F_column_Reader_Uint (L := blk g1 50 [.slice A105 n106 c107] :: own kS 9 A105 n106 c107 a1 :: L) a0 4096 g0 h722 (qz + 2) hZ hS)) (fun w hR => ?_) rfl rfl rfl rfl rfl
    replace hS := hR
    obtain ⟨A723, n724, c725, hS⟩ := obj86_open hS
    replace hS := hS.pk 1
    have hQ0 := SH.unpure hS
    clear hS
    obtain ⟨h726, hS⟩ := hQ0
    replace hS := SH.pure_ h726 hS
    replace hS := hS.pk 1
    replace hS := obj86_mk (x := y721) hS
    replace hS := hS.pk 2
    replace hS := hS.pk 2
    replace hS := obj50_mk (x := a1) hS
    replace hS := hS.pk 1
    cases hF
    exact hQp _ rfl _ _ hA.defers hS
  replace hF := sum_l hF
  refine x_callw (vs := #[.pointer (some ⟨g0, 0, none⟩), .int .u64 4096]) en41 hA (RetS.lf (F_column_Reader_Uint (L := blk g1 50 [.slice A105 n106 c107] :: own kS 9 A105 n106 c107 a1 :: L) a0 4096 g0 h722 (qz + 2) hZ hS)) (fun v ac w hR hA => ?_) rfl rfl rfl rfl rfl rfl rfl
  obtain ⟨rfl, hS⟩ := hR
  obtain ⟨A727, n728, c729, hS⟩ := obj86_open hS
  replace hS := hS.pk 1
  have hQ0 := SH.unpure hS
  clear hS
  obtain ⟨h730, hS⟩ := hQ0
  refine x_move hA (fun ac hA => ?_) rfl rfl rfl rfl rfl
  refine wpList_nil ?_
  refine hK720 _ _ ?_
  refine wp_block_k fun Kx731 hKx731 => ?_
  have hb1 : ∀ (l1026 : (List Int)) (l1031 : (List (List UInt8))), column_ReadTexts_1_b1 a1 l1026 l1031 = some y → ∀ (A1027 : Option Addr) (n1028 : Nat) (c1029 : Nat) (A1032 : Option Addr) (n1033 : Nat) (c1034 : Nat) (h1030 : Imm Z wz (kI .u8) A1027 n1028 c1029 l1026) (ac : Act) (w : World), FR 70 [] ac [(0, .pointer (some ⟨g0, 0, none⟩)), (1, .pointer (some ⟨g1, 0, none⟩)), (3, .slice A1032 n1033 c1034)] → SH r (blk g0 86 [.slice A1027 n1028 c1029] :: blk g1 50 [.slice A105 n106 c107] :: own kS 9 A105 n106 c107 a1 :: own kS 9 A1032 n1033 c1034 l1031 :: L) w → Kx731 ac w := by
    intro l1026 l1031 hF A1027 n1028 c1029 A1032 n1033 c1034 h1030 ac w hA hS
    unfold column_ReadTexts_1_b1 at hF
    refine hKx731 _ _ ?_
    refine hK109 _ _ ?_
    refine wp_seq_k fun K1035 hK1035 => ?_
    refine wp_reg ?_
    refine x_move hA (fun ac hA => ?_) rfl rfl rfl rfl rfl
    refine x_len Tryd.underlying50 (hS.rd 3 rfl).2.1 hA (fun ac hA => ?_) rfl rfl rfl rfl rfl
    obtain ⟨h1036, hF⟩ := chk_some hF
    refine x_mks (d := kB) (bytes := 1) false inf4 rfl Tryd.underlying90 h1036 hA hS (fun g1037 ac w hS hA => ?_) rfl rfl rfl rfl rfl rfl
    refine x_assign hA (fun ac hA => ?_) rfl rfl rfl rfl rfl
    refine wpList_nil ?_
    refine hK1035 _ _ ?_
    refine wp_seq_k fun K1038 hK1038 => ?_
    refine wp_seq_k fun K1579 hK1579 => ?_
    refine wp_reg ?_
    refine x_move hA (fun ac hA => ?_) rfl rfl rfl rfl rfl
    replace hS := SH.pure_ h1030 hS
    replace hS := hS.pk 2
    replace hS := obj86_mk (x := (⟨l1026⟩ : S86)) hS
    obtain ⟨y1580, h1581, hF⟩ := bnd hF
    rcases y1580 with y1580 | y1580
    rotate_left
    · replace hF := sum_r hF
      refine x_callp (vs := #[.pointer (some ⟨g0, 0, none⟩)]) en44 hA (RetS.rf (F_column_ints (L := own kB 4 (some ⟨g1037, 0, none⟩) ((l1031.length : Int).toNat) ((l1031.length : Int).toNat) (List.replicate (l1031.length : Int).toNat (false : Bool)) :: blk g1 50 [.slice A105 n106 c107] :: own kS 9 A105 n106 c107 a1 :: own kS 9 A1032 n1033 c1034 l1031 :: L) (⟨l1026⟩ : S86) g0 h1581 (qz + 4) hZ hS)) (fun w hR => ?_) rfl rfl rfl rfl rfl
      replace hS := hR
      obtain ⟨A1582, n1583, c1584, hS⟩ := obj86_open hS
      replace hS := hS.pk 1
      have hQ0 := SH.unpure hS
      clear hS
      obtain ⟨h1585, hS⟩ := hQ0
      replace hS := SH.pure_ h1585 hS
      replace hS := hS.pk 1
      replace hS := obj86_mk (x := y1580) hS
      replace hS := hS.pk 3
      replace hS := hS.pk 3
      replace hS := obj50_mk (x := a1) hS
      replace hS := hS.drop 2
      replace hS := hS.drop 2
      replace hS := hS.pk 1
      cases hF
      exact hQp _ rfl _ _ hA.defers hS
    replace hF := sum_l hF
    refine x_callw (vs := #[.pointer (some ⟨g0, 0, none⟩)]) en44 hA (RetS.lf (F_column_ints (L := own kB 4 (some ⟨g1037, 0, none⟩) ((l1031.length : Int).toNat) ((l1031.length : Int).toNat) (List.replicate (l1031.length : Int).toNat (false : Bool)) :: blk g1 50 [.slice A105 n106 c107] :: own kS 9 A105 n106 c107 a1 :: own kS 9 A1032 n1033 c1034 l1031 :: L) (⟨l1026⟩ : S86) g0 h1581 (qz + 4) hZ hS)) (fun v ac w hR hA => ?_) rfl rfl rfl rfl rfl rfl rfl
    obtain ⟨B1586, m1587, d1588, rfl, hS⟩ := hR
    replace hS := hS.pk 1
    obtain ⟨A1589, n1590, c1591, hS⟩ := obj86_open hS
    replace hS := hS.pk 1
    have hQ0 := SH.unpure hS
    clear hS
    obtain ⟨h1592, hS⟩ := hQ0
    refine x_len Tryd.underlying47 (hS.rd 1 rfl).2.1 hA (fun ac hA => ?_) rfl rfl rfl rfl rfl
    refine x_move hA (fun ac hA => ?_) rfl rfl rfl rfl rfl
    refine wpList_nil ?_
    refine hK1579 _ _ ?_
    refine wp_block_k fun Kx1593 hKx1593 => ?_
    have hb2 : ∀ (l1851 : (List Int)) (l1856 : (List (List UInt8))) (l1860 : (List Bool)), column_ReadTexts_1_b2 l1851 l1856 l1860 = some y → ∀ (A1852 : Option Addr) (n1853 : Nat) (c1854 : Nat) (A1857 : Option Addr) (n1858 : Nat) (c1859 : Nat) (h1855 : Imm Z wz (kI .u8) A1852 n1853 c1854 l1851) (ac : Act) (w : World), FR 70 [] ac [(0, .pointer (some ⟨g0, 0, none⟩)), (1, .pointer (some ⟨g1, 0, none⟩)), (5, .slice (some ⟨g1037, 0, none⟩) ((l1031.length : Int).toNat) ((l1031.length : Int).toNat))] → SH r (blk g0 86 [.slice A1852 n1853 c1854] :: blk g1 50 [.slice A1857 n1858 c1859] :: own kS 9 A1857 n1858 c1859 l1856 :: own kB 4 (some ⟨g1037, 0, none⟩) ((l1031.length : Int).toNat) ((l1031.length : Int).toNat) l1860 :: L) w → Kx1593 ac w := by
      intro l1851 l1856 l1860 hF A1852 n1853 c1854 A1857 n1858 c1859 h1855 ac w hA hS
      unfold column_ReadTexts_1_b2 at hF
      refine hKx1593 _ _ ?_
      refine hK1038 _ _ ?_
      refine wp_reg ?_
      refine x_move hA (fun ac hA => ?_) rfl rfl rfl rfl rfl
      refine x_move hA (fun ac hA => ?_) rfl rfl rfl rfl rfl
      obtain ⟨y1861, h1862, hF⟩ := bnd hF
      refine x_call en46 hA (F_slices_Contains_bool_bool (L := blk g0 86 [.slice A1852 n1853 c1854] :: blk g1 50 [.slice A1857 n1858 c1859] :: own kS 9 A1857 n1858 c1859 l1856 :: own kB 4 (some ⟨g1037, 0, none⟩) ((l1031.length : Int).toNat) ((l1031.length : Int).toNat) l1860 :: L) l1860 false (some ⟨g1037, 0, none⟩) ((l1031.length : Int).toNat) ((l1031.length : Int).toNat) h1862 (RdL.own 3 rfl (hS.dropN 0)) hS) (fun v ac w hR hA => ?_) rfl rfl rfl rfl rfl
      obtain ⟨rfl, hS⟩ := hR
      refine x_val hA (r_not rfl (hA.ev rfl)) (fun ac hA => ?_) rfl rfl rfl
      replace hS := SH.pure_ h1855 hS
      replace hS := hS.pk 1
      replace hS := obj86_mk (x := (⟨l1851⟩ : S86)) hS
      obtain ⟨y1863, h1864, hF⟩ := bnd hF
      rcases y1863 with y1863 | y1863
      rotate_left
      · replace hF := sum_r hF
        refine x_callp (vs := #[.pointer (some ⟨g0, 0, none⟩), .bool (!y1861)]) en42 hA (RetS.rf (F_column_Reader_Check (L := blk g1 50 [.slice A1857 n1858 c1859] :: own kS 9 A1857 n1858 c1859 l1856 :: own kB 4 (some ⟨g1037, 0, none⟩) ((l1031.length : Int).toNat) ((l1031.length : Int).toNat) l1860 :: L) (⟨l1851⟩ : S86) (!y1861) g0 h1864 (qz + 3) hZ hS)) (fun w hR => ?_) rfl rfl rfl rfl rfl
        replace hS := hR
        obtain ⟨A1865, n1866, c1867, hS⟩ := obj86_open hS
        replace hS := hS.pk 1
        have hQ0 := SH.unpure hS
        clear hS
        obtain ⟨h1868, hS⟩ := hQ0
        replace hS := SH.pure_ h1868 hS
        replace hS := hS.pk 1
        replace hS := obj86_mk (x := y1863) hS
        replace hS := hS.pk 2
        replace hS := hS.pk 2
        replace hS := obj50_mk (x := l1856) hS
        replace hS := hS.drop 2
        replace hS := hS.pk 1
        cases hF
        exact hQp _ rfl _ _ hA.defers hS
      replace hF := sum_l hF
      refine x_callw (vs := #[.pointer (some ⟨g0, 0, none⟩), .bool (!y1861)]) en42 hA (RetS.lf (F_column_Reader_Check (L := blk g1 50 [.slice A1857 n1858 c1859] :: own kS 9 A1857 n1858 c1859 l1856 :: own kB 4 (some ⟨g1037, 0, none⟩) ((l1031.length : Int).toNat) ((l1031.length : Int).toNat) l1860 :: L) (⟨l1851⟩ : S86) (!y1861) g0 h1864 (qz + 3) hZ hS)) (fun v ac w hR hA => ?_) rfl rfl rfl rfl rfl rfl rfl
      obtain ⟨rfl, hS⟩ := hR
      obtain ⟨A1869, n1870, c1871, hS⟩ := obj86_open hS
      replace hS := hS.pk 1
      have hQ0 := SH.unpure hS
      clear hS
      obtain ⟨h1872, hS⟩ := hQ0
      refine wpList_nil ?_
      replace hS := SH.pure_ h1872 hS
      replace hS := hS.pk 1
      replace hS := obj86_mk (x := y1863) hS
      replace hS := hS.pk 2
      replace hS := hS.pk 2
      replace hS := obj50_mk (x := l1856) hS
      replace hS := hS.drop 2
      replace hS := hS.pk 1
      cases hF
      refine hQn _ rfl _ _ ?_
      refine lv0n Tryd.results45 hA ?_
      exact ⟨rfl, hS⟩
    obtain ⟨t2057, hl2057, hF⟩ := bnd hF
    have hR2057 := hF
    have hx2057_2 : ∀ (l2048 : (List Int)) (l2053 : (List (List UInt8))) (l2057 : (List Bool)), (.inl (l2048, l2053, l2057)) = t2057 → ∀ (A2049 : Option Addr) (n2050 : Nat) (c2051 : Nat) (A2054 : Option Addr) (n2055 : Nat) (c2056 : Nat) (h2052 : Imm Z wz (kI .u8) A2049 n2050 c2051 l2048) (ac : Act) (w : World), FR 70 [] ac [(0, .pointer (some ⟨g0, 0, none⟩)), (1, .pointer (some ⟨g1, 0, none⟩)), (5, .slice (some ⟨g1037, 0, none⟩) ((l1031.length : Int).toNat) ((l1031.length : Int).toNat))] → SH r (blk g0 86 [.slice A2049 n2050 c2051] :: blk g1 50 [.slice A2054 n2055 c2056] :: own kS 9 A2054 n2055 c2056 l2053 :: own kB 4 (some ⟨g1037, 0, none⟩) ((l1031.length : Int).toNat) ((l1031.length : Int).toNat) l2057 :: L) w → Kx1593 ac w := by
      intro l2048 l2053 l2057 ht A2049 n2050 c2051 A2054 n2055 c2056 h2052 ac w hA hS
      subst ht
      replace hF : column_ReadTexts_1_x1_2 l2048 l2053 l2057 = some y := hF
      unfold column_ReadTexts_1_x1_2 at hF
      exact hb2 l2048 l2053 l2057 hF A2049 n2050 c2051 A2054 n2055 c2056 h2052 ac w (hA.sub _ rfl) hS
    replace hS := hS.pk 1
    replace hS := hS.pk 2
    replace hS := hS.pk 5
    replace hS := hS.pk 5
    replace hS := hS.pk 5
    replace hS := hS.pk 5
    refine wp_loop_fn hl2057 (fun s ac w => ∃ (A1956 : Option Addr) (n1957 : Nat) (c1958 : Nat) (A1961 : Option Addr) (n1962 : Nat) (c1963 : Nat), Imm Z wz (kI .u8) A1956 n1957 c1958 s.1 ∧ FR 70 [] ac [(0, .pointer (some ⟨g0, 0, none⟩)), (1, .pointer (some ⟨g1, 0, none⟩)), (3, .slice A1032 n1033 c1034), (5, .slice (some ⟨g1037, 0, none⟩) ((l1031.length : Int).toNat) ((l1031.length : Int).toNat)), (38, .slice B1586 m1587 d1588), (39, .int .i64 (y1580.1.length : Int)), (40, .int .i64 s.2.2.2)] ∧ SH r (blk g0 86 [.slice A1956 n1957 c1958] :: blk g1 50 [.slice A1961 n1962 c1963] :: own kS 9 A1961 n1962 c1963 s.2.1 :: own kS 9 A1032 n1033 c1034 l1031 :: own kB 4 (some ⟨g1037, 0, none⟩) ((l1031.length : Int).toNat) ((l1031.length : Int).toNat) s.2.2.1 :: own (kI .i64) 2 B1586 m1587 d1588 y1580.1 :: L) w) ⟨A1589, n1590, c1591, A105, n106, c107, h1592, hA.sub _ rfl, hS⟩ ?_
    intro N2057 s2057 o2057 hF N2057_ T2057_ ac w hLab
    obtain ⟨l1955, l1960, l1964, x1965⟩ := s2057
    replace hF : column_ReadTexts_1_l1 l1031 y1580 l1955 l1960 l1964 x1965 = some o2057 := hF
    unfold column_ReadTexts_1_l1 at hF
    try dsimp only at hLab
    obtain ⟨A1956, n1957, c1958, A1961, n1962, c1963, h1959, hA, hS⟩ := hLab
    refine wp_seq_k fun K2059 hK2059 => ?_
    refine wp_reg ?_
    refine x_val hA (r_ltI rfl (hA.ev rfl) (hA.ev rfl)) (fun ac hA => ?_) rfl rfl rfl
    refine wpList_nil ?_
    refine hK2059 _ _ ?_
    refine wp_seq_k fun K2060 hK2060 => ?_
    refine c_if hA rfl (fun hb2061 => ?_) fun hb2061 => ?_
    · replace hF := ift hb2061 hF
      refine wp_skip ?_
      refine hK2060 _ _ ?_
      refine wp_seq_k fun K2062 hK2062 => ?_
      refine wp_block_k fun Kx2063 hKx2063 => ?_
      refine wp_seq_k fun K2064 hK2064 => ?_
      refine wp_reg ?_
      obtain ⟨x2065, h2066, hF⟩ := bnd hF
      refine x_ia Tryd.underlying47 sz2 (hS.rd 5 rfl) h2066 hA (fun ac hA => ?_) rfl rfl rfl rfl rfl rfl
      obtain ⟨cs, hV, hc2067⟩ := el (hS.rd 5 rfl) h2066
      obtain rfl := hV
      refine x_ld Tryd.underlying2 (hc2067 0 _ rfl) hA (fun ac hA => ?_) rfl rfl rfl rfl rfl rfl
      refine x_assign hA (fun ac hA => ?_) rfl rfl rfl rfl rfl
      refine wpList_nil ?_
      refine hK2064 _ _ ?_
      refine wp_seq_k fun K2068 hK2068 => ?_
      have hj1 : ∀ (l2090 : (List Int)), column_ReadTexts_1_j1 l1031 l1960 l1964 x1965 x2065 l2090 = some o2057 → ∀ (A2091 : Option Addr) (n2092 : Nat) (c2093 : Nat) (h2094 : Imm Z wz (kI .u8) A2091 n2092 c2093 l2090) (ac : Act) (w : World), FR 70 [] ac [(0, .pointer (some ⟨g0, 0, none⟩)), (1, .pointer (some ⟨g1, 0, none⟩)), (3, .slice A1032 n1033 c1034), (5, .slice (some ⟨g1037, 0, none⟩) ((l1031.length : Int).toNat) ((l1031.length : Int).toNat)), (7, .int .i64 x2065), (38, .slice B1586 m1587 d1588), (39, .int .i64 (y1580.1.length : Int)), (40, .int .i64 x1965)] → SH r (blk g0 86 [.slice A2091 n2092 c2093] :: blk g1 50 [.slice A1961 n1962 c1963] :: own kS 9 A1961 n1962 c1963 l1960 :: own kS 9 A1032 n1033 c1034 l1031 :: own kB 4 (some ⟨g1037, 0, none⟩) ((l1031.length : Int).toNat) ((l1031.length : Int).toNat) l1964 :: own (kI .i64) 2 B1586 m1587 d1588 y1580.1 :: L) w → K2068 ac w := by
        intro l2090 hF A2091 n2092 c2093 h2094 ac w hA hS
        unfold column_ReadTexts_1_j1 at hF
        refine hK2068 _ _ ?_
        refine wp_seq_k fun K2095 hK2095 => ?_
        refine wp_reg ?_
        refine x_move hA (fun ac hA => ?_) rfl rfl rfl rfl rfl
        refine x_move hA (fun ac hA => ?_) rfl rfl rfl rfl rfl
        obtain ⟨x2096, h2097, hF⟩ := bnd hF
        refine x_ia Tryd.underlying90 sz4 (hS.rd 4 rfl) h2097 hA (fun ac hA => ?_) rfl rfl rfl rfl rfl rfl
        refine x_sto (z' := true) (off := 0) (vs := [.bool true]) 4 sz4 hA hS rfl (at_some h2097).2.2 (fun c h => by cases h; rfl) (fun  ac w hS hA => ?_) rfl rfl rfl rfl rfl rfl rfl rfl
        refine wpList_nil ?_
        refine hK2095 _ _ ?_
        refine wp_draw [0, 0, 0, 6, 14, 30, 63, 127] [5, 6, 7] rfl hA hS (by kernel_rfl) (by kernel_rfl) (by kernel_rfl) (by kernel_rfl) fun w hS => ?_
        obtain ⟨x2098, h2099, hF⟩ := bnd hF
        obtain ⟨cs, hV, hc2100⟩ := el (hS.rd 4 rfl) h2099
        obtain rfl := hV
        refine ⟨[(0, .slice A1961 n1962 c1963), (1, .slice A1032 n1033 c1034), (2, .int .i64 x2065), (3, .pointer (some (ea A1032 (x2065.toNat * 1)))), (4, str x2098)], ?_⟩
        refine dEff [0, 1, 2, 3, 4] [5] (by kernel_rfl) ⟨pu rfl rfl [(1, .pointer (some ⟨g1, 0, none⟩))] (fun ac hA => y_ld Tryd.underlying50 (hS.cell 2 rfl 0 _ rfl) hA rfl rfl rfl) rfl rfl, pu rfl rfl [(3, .slice A1032 n1033 c1034)] (fun ac hA => y_move hA rfl rfl) rfl rfl, pu rfl rfl [(7, .int .i64 x2065)] (fun ac hA => y_move hA rfl rfl) rfl rfl, pu rfl rfl [(58, .slice A1032 n1033 c1034), (59, .int .i64 x2065)] (fun ac hA => y_ia Tryd.underlying50 sz9 (hS.rd 4 rfl) h2099 hA rfl rfl rfl) rfl rfl, pu rfl rfl [(60, .pointer (some (ea A1032 (x2065.toNat * 1))))] (fun ac hA => y_ld Tryd.underlying9 (hc2100 0 _ rfl) hA rfl rfl rfl) rfl rfl, trivial⟩ (by kernel_rfl) (by kernel_rfl) ⟨ef rfl [(61, str x2098)] (fun ac hA K hK => ?_) rfl rfl, trivial⟩
        refine z_bsl (d := kS) (e := 9) (ps := #[(0, str x2098)]) (cells := [str x2098]) (xs := [x2098]) (fun w => by kernel_rfl) rfl ⟨[str x2098], _, rfl, rfl, rfl⟩ hA hS (fun g2101 w hS => ?_) rfl rfl rfl
        refine hK _ [] _ rfl ?_
        refine dEff [0] [6] (by kernel_rfl) ⟨pu rfl rfl [(1, .pointer (some ⟨g1, 0, none⟩))] (fun ac hA => y_ld Tryd.underlying50 (hS.cell 3 rfl 0 _ rfl) hA rfl rfl rfl) rfl rfl, trivial⟩ (by kernel_rfl) (by kernel_rfl) ⟨ef rfl [(57, .slice A1961 n1962 c1963), (62, .slice (some ⟨g2101, 0, none⟩) 1 1)] (fun ac hA K hK => ?_) rfl rfl, trivial⟩
        obtain ⟨h2102, hF⟩ := chk_some hF
        have hr := hS.rd 0 rfl
        refine z_app 4 inf9 Tryd.underlying50 hA hS hr.1 hr.2.1 h2102 rfl (fun A2103 n2104 c2105 w hS => ?_) rfl rfl rfl rfl rfl rfl
        refine hK _ [] _ rfl ?_
        refine dEff [] [7] (by kernel_rfl) trivial (by kernel_rfl) (by kernel_rfl) ⟨ef rfl [(1, .pointer (some ⟨g1, 0, none⟩)), (63, .slice A2103 n2104 c2105)] (fun ac hA K hK => ?_) rfl rfl, trivial⟩
        refine z_stb 4 sz50 hA hS rfl (fun  w hS => ?_) rfl rfl rfl rfl rfl rfl
        refine hK _ [] _ rfl ?_
        refine dEnd [] (by kernel_rfl) trivial ⟨by kernel_rfl, by kernel_rfl⟩ [(0, .pointer (some ⟨g0, 0, none⟩)), (1, .pointer (some ⟨g1, 0, none⟩)), (3, .slice A1032 n1033 c1034), (5, .slice (some ⟨g1037, 0, none⟩) ((l1031.length : Int).toNat) ((l1031.length : Int).toNat)), (38, .slice B1586 m1587 d1588), (39, .int .i64 (y1580.1.length : Int)), (40, .int .i64 x1965)] rfl (fun ac hA => ?_)
        refine hKx2063 _ _ ?_
        refine hK2062 _ _ ?_
        refine wp_reg ?_
        obtain ⟨x2106, h2107, hF⟩ := ltt_ hF
        refine x_val (v := .int .i64 x2106) hA (rv_i h2107 (r_add rfl (hA.ev rfl) (hA.ev rfl))) (fun ac hA => ?_) rfl rfl rfl
        refine x_move hA (fun ac hA => ?_) rfl rfl rfl rfl rfl
        refine wpList_nil ?_
        replace hS := hS.drop 2
        replace hS := hS.pk 5
        replace hS := hS.pk 3
        replace hS := hS.pk 5
        replace hS := hS.pk 4
        replace hS := hS.pk 4
        replace hS := hS.pk 5
        cases hF
        exact ⟨_, N2057_ _ rfl, A2091, n2092, c2093, A2103, n2104, c2105, h2094, hA.sub _ rfl, hS⟩
      refine wp_reg ?_
      refine x_move hA (fun ac hA => ?_) rfl rfl rfl rfl rfl
      refine x_move hA (fun ac hA => ?_) rfl rfl rfl rfl rfl
      refine x_val hA (r_geI rfl (hA.ev rfl) (hA.ev rfl)) (fun ac hA => ?_) rfl rfl rfl
      refine x_move hA (fun ac hA => ?_) rfl rfl rfl rfl rfl
      refine bcase (b := decide (0 ≤ x2065)) (fun hb2108 => ?_) fun hb2108 => ?_
      · replace hF := ift hb2108 hF
        refine x_on hb2108 hA ?_ rfl rfl rfl
        refine x_move hA (fun ac hA => ?_) rfl rfl rfl rfl rfl
        refine x_on hb2108 hA ?_ rfl rfl rfl
        refine x_move hA (fun ac hA => ?_) rfl rfl rfl rfl rfl
        refine x_on hb2108 hA ?_ rfl rfl rfl
        refine x_len Tryd.underlying50 (hS.rd 3 rfl).2.1 hA (fun ac hA => ?_) rfl rfl rfl rfl rfl
        refine x_on hb2108 hA ?_ rfl rfl rfl
        refine x_val hA (r_ltI rfl (hA.ev rfl) (hA.ev rfl)) (fun ac hA => ?_) rfl rfl rfl
        refine x_pickt hb2108 hA (fun ac hA => ?_) rfl rfl rfl rfl rfl rfl
        replace hS := SH.pure_ h1959 hS
        replace hS := hS.pk 1
        replace hS := obj86_mk (x := (⟨l1955⟩ : S86)) hS
        obtain ⟨y2109, h2110, hF⟩ := bnd hF
        rcases y2109 with y2109 | y2109
        rotate_left
        · replace hF := sum_r hF
          refine x_callp (vs := #[.pointer (some ⟨g0, 0, none⟩), .bool (decide (x2065 < (l1031.length : Int)))]) en42 hA (RetS.rf (F_column_Reader_Check (L := blk g1 50 [.slice A1961 n1962 c1963] :: own kS 9 A1961 n1962 c1963 l1960 :: own kS 9 A1032 n1033 c1034 l1031 :: own kB 4 (some ⟨g1037, 0, none⟩) ((l1031.length : Int).toNat) ((l1031.length : Int).toNat) l1964 :: own (kI .i64) 2 B1586 m1587 d1588 y1580.1 :: L) (⟨l1955⟩ : S86) (decide (x2065 < (l1031.length : Int))) g0 h2110 (qz + 5) hZ hS)) (fun w hR => ?_) rfl rfl rfl rfl rfl
          replace hS := hR
          obtain ⟨A2111, n2112, c2113, hS⟩ := obj86_open hS
          replace hS := hS.pk 1
          have hQ0 := SH.unpure hS
          clear hS
          obtain ⟨h2114, hS⟩ := hQ0
          replace hS := SH.pure_ h2114 hS
          replace hS := hS.pk 1
          replace hS := obj86_mk (x := y2109) hS
          replace hS := hS.pk 2
          replace hS := hS.pk 2
          replace hS := obj50_mk (x := l1960) hS
          replace hS := hS.drop 2
          replace hS := hS.drop 2
          replace hS := hS.drop 2
          replace hS := hS.pk 1
          cases hF
          have ht := T2057_ _ rfl
          subst ht
          replace hF := hR2057
          replace hF : some (.inr (y2109, l1960)) = some y := hF
          cases hF
          exact hQp _ rfl _ _ hA.defers hS
        replace hF := sum_l hF
        refine x_callw (vs := #[.pointer (some ⟨g0, 0, none⟩), .bool (decide (x2065 < (l1031.length : Int)))]) en42 hA (RetS.lf (F_column_Reader_Check (L := blk g1 50 [.slice A1961 n1962 c1963] :: own kS 9 A1961 n1962 c1963 l1960 :: own kS 9 A1032 n1033 c1034 l1031 :: own kB 4 (some ⟨g1037, 0, none⟩) ((l1031.length : Int).toNat) ((l1031.length : Int).toNat) l1964 :: own (kI .i64) 2 B1586 m1587 d1588 y1580.1 :: L) (⟨l1955⟩ : S86) (decide (x2065 < (l1031.length : Int))) g0 h2110 (qz + 5) hZ hS)) (fun v ac w hR hA => ?_) rfl rfl rfl rfl rfl rfl rfl
        obtain ⟨rfl, hS⟩ := hR
        obtain ⟨A2115, n2116, c2117, hS⟩ := obj86_open hS
        replace hS := hS.pk 1
        have hQ0 := SH.unpure hS
        clear hS
        obtain ⟨h2118, hS⟩ := hQ0
        refine wpList_nil ?_
        exact hj1 y2109.f0 hF A2115 n2116 c2117 h2118 ac w (hA.sub _ rfl) hS
      replace hF := iff' hb2108 hF
      refine x_off hb2108 hA (fun ac hA => ?_) rfl rfl rfl rfl rfl
      refine x_off hb2108 hA (fun ac hA => ?_) rfl rfl rfl rfl rfl
      refine x_off hb2108 hA (fun ac hA => ?_) rfl rfl rfl rfl rfl
      refine x_off hb2108 hA (fun ac hA => ?_) rfl rfl rfl rfl rfl
      refine x_pickf hb2108 hA (fun ac hA => ?_) rfl rfl rfl rfl rfl rfl
      replace hS := SH.pure_ h1959 hS
      replace hS := hS.pk 1
      replace hS := obj86_mk (x := (⟨l1955⟩ : S86)) hS
      obtain ⟨y2119, h2120, hF⟩ := bnd hF
      rcases y2119 with y2119 | y2119
      rotate_left
      · replace hF := sum_r hF
        refine x_callp (vs := #[.pointer (some ⟨g0, 0, none⟩), .bool false]) en42 hA (RetS.rf (F_column_Reader_Check (L := blk g1 50 [.slice A1961 n1962 c1963] :: own kS 9 A1961 n1962 c1963 l1960 :: own kS 9 A1032 n1033 c1034 l1031 :: own kB 4 (some ⟨g1037, 0, none⟩) ((l1031.length : Int).toNat) ((l1031.length : Int).toNat) l1964 :: own (kI .i64) 2 B1586 m1587 d1588 y1580.1 :: L) (⟨l1955⟩ : S86) false g0 h2120 (qz + 5) hZ hS)) (fun w hR => ?_) rfl rfl rfl rfl rfl
        replace hS := hR
        obtain ⟨A2121, n2122, c2123, hS⟩ := obj86_open hS
        replace hS := hS.pk 1
        have hQ0 := SH.unpure hS
        clear hS
        obtain ⟨h2124, hS⟩ := hQ0
        replace hS := SH.pure_ h2124 hS
        replace hS := hS.pk 1
        replace hS := obj86_mk (x := y2119) hS
        replace hS := hS.pk 2
        replace hS := hS.pk 2
        replace hS := obj50_mk (x := l1960) hS
        replace hS := hS.drop 2
        replace hS := hS.drop 2
        replace hS := hS.drop 2
        replace hS := hS.pk 1
        cases hF
        have ht := T2057_ _ rfl
        subst ht
        replace hF := hR2057
        replace hF : some (.inr (y2119, l1960)) = some y := hF
        cases hF
        exact hQp _ rfl _ _ hA.defers hS
      replace hF := sum_l hF
      refine x_callw (vs := #[.pointer (some ⟨g0, 0, none⟩), .bool false]) en42 hA (RetS.lf (F_column_Reader_Check (L := blk g1 50 [.slice A1961 n1962 c1963] :: own kS 9 A1961 n1962 c1963 l1960 :: own kS 9 A1032 n1033 c1034 l1031 :: own kB 4 (some ⟨g1037, 0, none⟩) ((l1031.length : Int).toNat) ((l1031.length : Int).toNat) l1964 :: own (kI .i64) 2 B1586 m1587 d1588 y1580.1 :: L) (⟨l1955⟩ : S86) false g0 h2120 (qz + 5) hZ hS)) (fun v ac w hR hA => ?_) rfl rfl rfl rfl rfl rfl rfl
      obtain ⟨rfl, hS⟩ := hR
      obtain ⟨A2125, n2126, c2127, hS⟩ := obj86_open hS
      replace hS := hS.pk 1
      have hQ0 := SH.unpure hS
      clear hS
      obtain ⟨h2128, hS⟩ := hQ0
      refine wpList_nil ?_
      exact hj1 y2119.f0 hF A2125 n2126 c2127 h2128 ac w (hA.sub _ rfl) hS
    replace hF := iff' hb2061 hF
    refine wp_exit ?_
    replace hS := hS.drop 3
    replace hS := hS.drop 4
    cases hF
    exact hx2057_2 l1955 l1960 l1964 (T2057_ _ rfl) A1956 n1957 c1958 A1961 n1962 c1963 h1959 ac w (hA.sub _ rfl) hS
  obtain ⟨t2339, hl2339, hF⟩ := bnd hF
  have hR2339 := hF
  have hx2339_0 : ∀ (l2331 : (List Int)) (l2336 : (List (List UInt8))), (.inl (l2331, l2336)) = t2339 → ∀ (A2332 : Option Addr) (n2333 : Nat) (c2334 : Nat) (A2337 : Option Addr) (n2338 : Nat) (c2339 : Nat) (h2335 : Imm Z wz (kI .u8) A2332 n2333 c2334 l2331) (ac : Act) (w : World), FR 70 [] ac [(0, .pointer (some ⟨g0, 0, none⟩)), (1, .pointer (some ⟨g1, 0, none⟩)), (3, .slice A2337 n2338 c2339)] → SH r (blk g0 86 [.slice A2332 n2333 c2334] :: blk g1 50 [.slice A105 n106 c107] :: own kS 9 A105 n106 c107 a1 :: own kS 9 A2337 n2338 c2339 l2336 :: L) w → Kx731 ac w := by
    intro l2331 l2336 ht A2332 n2333 c2334 A2337 n2338 c2339 h2335 ac w hA hS
    subst ht
    replace hF : column_ReadTexts_1_x2_0 a1 l2331 l2336 = some y := hF
    unfold column_ReadTexts_1_x2_0 at hF
    exact hb1 l2331 l2336 hF A2332 n2333 c2334 A2337 n2338 c2339 h2335 ac w (hA.sub _ rfl) hS
  replace hS := SH.nil_own (d := kS) (e := 9) hS
  replace hS := hS.pk 3
  replace hS := hS.pk 3
  replace hS := hS.pk 3
  refine wp_loop_fn hl2339 (fun s ac w => ∃ (A2230 : Option Addr) (n2231 : Nat) (c2232 : Nat) (A2235 : Option Addr) (n2236 : Nat) (c2237 : Nat), Imm Z wz (kI .u8) A2230 n2231 c2232 s.1 ∧ FR 70 [] ac [(0, .pointer (some ⟨g0, 0, none⟩)), (1, .pointer (some ⟨g1, 0, none⟩)), (3, .slice A2235 n2236 c2237), (9, .int .u64 y721.1), (10, .int .u64 s.2.2)] ∧ SH r (blk g0 86 [.slice A2230 n2231 c2232] :: blk g1 50 [.slice A105 n106 c107] :: own kS 9 A105 n106 c107 a1 :: own kS 9 A2235 n2236 c2237 s.2.1 :: L) w) ⟨A727, n728, c729, none, 0, 0, h730, hA.sub _ rfl, hS⟩ ?_
  intro N2339 s2339 o2339 hF N2339_ T2339_ ac w hLab
  obtain ⟨l2229, l2234, x2238⟩ := s2339
  replace hF : column_ReadTexts_1_l2 a1 y721 l2229 l2234 x2238 = some o2339 := hF
  unfold column_ReadTexts_1_l2 at hF
  try dsimp only at hLab
  obtain ⟨A2230, n2231, c2232, A2235, n2236, c2237, h2233, hA, hS⟩ := hLab
  refine wp_seq_k fun K2341 hK2341 => ?_
  refine wp_reg ?_
  refine x_val hA (r_ltI rfl (hA.ev rfl) (hA.ev rfl)) (fun ac hA => ?_) rfl rfl rfl
  refine wpList_nil ?_
  refine hK2341 _ _ ?_
  refine wp_seq_k fun K2342 hK2342 => ?_
  refine c_if hA rfl (fun hb2343 => ?_) fun hb2343 => ?_
  · replace hF := ift hb2343 hF
    refine wp_skip ?_
    refine hK2342 _ _ ?_
    refine wp_seq_k fun K2344 hK2344 => ?_
    refine wp_block_k fun Kx2345 hKx2345 => ?_
    refine wp_seq_k fun K2346 hK2346 => ?_
    refine wp_reg ?_
    refine x_move hA (fun ac hA => ?_) rfl rfl rfl rfl rfl
    replace hS := SH.pure_ h2233 hS
    replace hS := hS.pk 1
    replace hS := obj86_mk (x := (⟨l2229⟩ : S86)) hS
    obtain ⟨y2347, h2348, hF⟩ := bnd hF
    rcases y2347 with y2347 | y2347
    rotate_left
    · replace hF := sum_r hF
      refine x_callp (vs := #[.pointer (some ⟨g0, 0, none⟩), .int .i64 32]) en15 hA (RetS.rf (F_column_Reader_Text (L := blk g1 50 [.slice A105 n106 c107] :: own kS 9 A105 n106 c107 a1 :: own kS 9 A2235 n2236 c2237 l2234 :: L) (⟨l2229⟩ : S86) 32 g0 h2348 (qz + 3) hZ hS)) (fun w hR => ?_) rfl rfl rfl rfl rfl
      replace hS := hR
      obtain ⟨A2349, n2350, c2351, hS⟩ := obj86_open hS
      replace hS := hS.pk 1
      have hQ0 := SH.unpure hS
      clear hS
      obtain ⟨h2352, hS⟩ := hQ0
      replace hS := SH.pure_ h2352 hS
      replace hS := hS.pk 1
      replace hS := obj86_mk (x := y2347) hS
      replace hS := hS.pk 2
      replace hS := hS.pk 2
      replace hS := obj50_mk (x := a1) hS
      replace hS := hS.drop 2
      replace hS := hS.pk 1
      cases hF
      have ht := T2339_ _ rfl
      subst ht
      replace hF := hR2339
      replace hF : some (.inr (y2347, a1)) = some y := hF
      cases hF
      exact hQp _ rfl _ _ hA.defers hS
    replace hF := sum_l hF
    refine x_callw (vs := #[.pointer (some ⟨g0, 0, none⟩), .int .i64 32]) en15 hA (RetS.lf (F_column_Reader_Text (L := blk g1 50 [.slice A105 n106 c107] :: own kS 9 A105 n106 c107 a1 :: own kS 9 A2235 n2236 c2237 l2234 :: L) (⟨l2229⟩ : S86) 32 g0 h2348 (qz + 3) hZ hS)) (fun v ac w hR hA => ?_) rfl rfl rfl rfl rfl rfl rfl
    obtain ⟨rfl, hS⟩ := hR
    obtain ⟨A2353, n2354, c2355, hS⟩ := obj86_open hS
    replace hS := hS.pk 1
    have hQ0 := SH.unpure hS
    clear hS
    obtain ⟨h2356, hS⟩ := hQ0
    refine x_assign hA (fun ac hA => ?_) rfl rfl rfl rfl rfl
    refine wpList_nil ?_
    refine hK2346 _ _ ?_
    refine wp_seq_k fun K2357 hK2357 => ?_
    have hj2 : ∀ (l2384 : (List Int)), column_ReadTexts_1_j2 l2234 x2238 y2347 l2384 = some o2339 → ∀ (A2385 : Option Addr) (n2386 : Nat) (c2387 : Nat) (h2388 : Imm Z wz (kI .u8) A2385 n2386 c2387 l2384) (ac : Act) (w : World), FR 70 [] ac [(0, .pointer (some ⟨g0, 0, none⟩)), (1, .pointer (some ⟨g1, 0, none⟩)), (3, .slice A2235 n2236 c2237), (4, str y2347.1), (9, .int .u64 y721.1), (10, .int .u64 x2238)] → SH r (blk g0 86 [.slice A2385 n2386 c2387] :: blk g1 50 [.slice A105 n106 c107] :: own kS 9 A105 n106 c107 a1 :: own kS 9 A2235 n2236 c2237 l2234 :: L) w → K2357 ac w := by
      intro l2384 hF A2385 n2386 c2387 h2388 ac w hA hS
      unfold column_ReadTexts_1_j2 at hF
      refine hK2357 _ _ ?_
      refine wp_reg ?_
      refine x_move hA (fun ac hA => ?_) rfl rfl rfl rfl rfl
      refine x_move hA (fun ac hA => ?_) rfl rfl rfl rfl rfl
      refine x_bsl (d := kS) (e := 9) (ps := #[(0, str y2347.1)]) (cells := [str y2347.1]) (xs := [y2347.1]) (fun w => by kernel_rfl) rfl ⟨[str y2347.1], _, rfl, rfl, rfl⟩ hA hS (fun g2389 ac w hS hA => ?_) rfl rfl rfl rfl rfl rfl
      obtain ⟨h2390, hF⟩ := chk_some hF
      have hr := hS.rd 0 rfl
      refine x_app 4 inf9 Tryd.underlying50 hA hS hr.1 hr.2.1 h2390 rfl (fun A2391 n2392 c2393 ac w hS hA => ?_) rfl rfl rfl rfl rfl rfl rfl rfl rfl
      refine x_assign hA (fun ac hA => ?_) rfl rfl rfl rfl rfl
      refine wpList_nil ?_
      refine hKx2345 _ _ ?_
      refine hK2344 _ _ ?_
      refine wp_reg ?_
      obtain ⟨x2394, h2395, hF⟩ := ltt_ hF
      refine x_val (v := .int .u64 x2394) hA (rv_i h2395 (r_add rfl (hA.ev rfl) (hA.ev rfl))) (fun ac hA => ?_) rfl rfl rfl
      refine x_move hA (fun ac hA => ?_) rfl rfl rfl rfl rfl
      refine wpList_nil ?_
      replace hS := hS.drop 1
      replace hS := hS.pk 3
      replace hS := hS.pk 3
      replace hS := hS.pk 3
      cases hF
      exact ⟨_, N2339_ _ rfl, A2385, n2386, c2387, A2391, n2392, c2393, h2388, hA.sub _ rfl, hS⟩
    refine wp_reg ?_
    refine x_move hA (fun ac hA => ?_) rfl rfl rfl rfl rfl
    refine x_move hA (fun ac hA => ?_) rfl rfl rfl rfl rfl
    refine x_len Tryd.underlying50 (hS.rd 3 rfl).2.1 hA (fun ac hA => ?_) rfl rfl rfl rfl rfl
    refine x_val hA (r_eqI rfl (hA.ev rfl) (hA.ev rfl)) (fun ac hA => ?_) rfl rfl rfl
    refine x_move hA (fun ac hA => ?_) rfl rfl rfl rfl rfl
    refine bcase (b := (l2234.length : Int) == 0) (fun hb2396 => ?_) fun hb2396 => ?_
    · replace hF := ift hb2396 hF
      refine x_off hb2396 hA (fun ac hA => ?_) rfl rfl rfl rfl rfl
      refine x_off hb2396 hA (fun ac hA => ?_) rfl rfl rfl rfl rfl
      refine x_off hb2396 hA (fun ac hA => ?_) rfl rfl rfl rfl rfl
      refine x_off hb2396 hA (fun ac hA => ?_) rfl rfl rfl rfl rfl
      refine x_off hb2396 hA (fun ac hA => ?_) rfl rfl rfl rfl rfl
      refine x_off hb2396 hA (fun ac hA => ?_) rfl rfl rfl rfl rfl
      refine x_off hb2396 hA (fun ac hA => ?_) rfl rfl rfl rfl rfl
      refine x_off hb2396 hA (fun ac hA => ?_) rfl rfl rfl rfl rfl
      refine x_pickt hb2396 hA (fun ac hA => ?_) rfl rfl rfl rfl rfl rfl
      replace hS := SH.pure_ h2356 hS
      replace hS := hS.pk 1
      replace hS := obj86_mk (x := y2347.2) hS
      obtain ⟨y2397, h2398, hF⟩ := bnd hF
      rcases y2397 with y2397 | y2397
      rotate_left
      · replace hF := sum_r hF
        refine x_callp (vs := #[.pointer (some ⟨g0, 0, none⟩), .bool true]) en42 hA (RetS.rf (F_column_Reader_Check (L := blk g1 50 [.slice A105 n106 c107] :: own kS 9 A105 n106 c107 a1 :: own kS 9 A2235 n2236 c2237 l2234 :: L) y2347.2 true g0 h2398 (qz + 3) hZ hS)) (fun w hR => ?_) rfl rfl rfl rfl rfl
        replace hS := hR
        obtain ⟨A2399, n2400, c2401, hS⟩ := obj86_open hS
        replace hS := hS.pk 1
        have hQ0 := SH.unpure hS
        clear hS
        obtain ⟨h2402, hS⟩ := hQ0
        replace hS := SH.pure_ h2402 hS
        replace hS := hS.pk 1
        replace hS := obj86_mk (x := y2397) hS
        replace hS := hS.pk 2
        replace hS := hS.pk 2
        replace hS := obj50_mk (x := a1) hS
        replace hS := hS.drop 2
        replace hS := hS.pk 1
        cases hF
        have ht := T2339_ _ rfl
        subst ht
        replace hF := hR2339
        replace hF : some (.inr (y2397, a1)) = some y := hF
        cases hF
        exact hQp _ rfl _ _ hA.defers hS
      replace hF := sum_l hF
      refine x_callw (vs := #[.pointer (some ⟨g0, 0, none⟩), .bool true]) en42 hA (RetS.lf (F_column_Reader_Check (L := blk g1 50 [.slice A105 n106 c107] :: own kS 9 A105 n106 c107 a1 :: own kS 9 A2235 n2236 c2237 l2234 :: L) y2347.2 true g0 h2398 (qz + 3) hZ hS)) (fun v ac w hR hA => ?_) rfl rfl rfl rfl rfl rfl rfl
      obtain ⟨rfl, hS⟩ := hR
      obtain ⟨A2403, n2404, c2405, hS⟩ := obj86_open hS
      replace hS := hS.pk 1
      have hQ0 := SH.unpure hS
      clear hS
      obtain ⟨h2406, hS⟩ := hQ0
      refine wpList_nil ?_
      exact hj2 y2397.f0 hF A2403 n2404 c2405 h2406 ac w (hA.sub _ rfl) hS
    replace hF := iff' hb2396 hF
    refine x_on hb2396 hA ?_ rfl rfl rfl
    refine x_move hA (fun ac hA => ?_) rfl rfl rfl rfl rfl
    refine x_on hb2396 hA ?_ rfl rfl rfl
    refine x_move hA (fun ac hA => ?_) rfl rfl rfl rfl rfl
    refine x_on hb2396 hA ?_ rfl rfl rfl
    refine x_len Tryd.underlying50 (hS.rd 3 rfl).2.1 hA (fun ac hA => ?_) rfl rfl rfl rfl rfl
    refine x_on hb2396 hA ?_ rfl rfl rfl
    obtain ⟨x2407, h2408, hF⟩ := ltt_ hF
    refine x_val (v := .int .i64 x2407) hA (rv_i h2408 (r_sub rfl (hA.ev rfl) (hA.ev rfl))) (fun ac hA => ?_) rfl rfl rfl
    refine x_on hb2396 hA ?_ rfl rfl rfl
    obtain ⟨x2409, h2410, hF⟩ := bnd hF
    refine x_ia Tryd.underlying50 sz9 (hS.rd 3 rfl) h2410 hA (fun ac hA => ?_) rfl rfl rfl rfl rfl rfl
    refine x_on hb2396 hA ?_ rfl rfl rfl
    obtain ⟨cs, hV, hc2411⟩ := el (hS.rd 3 rfl) h2410
    obtain rfl := hV
    refine x_ld Tryd.underlying9 (hc2411 0 _ rfl) hA (fun ac hA => ?_) rfl rfl rfl rfl rfl rfl
    refine x_on hb2396 hA ?_ rfl rfl rfl
    refine x_move hA (fun ac hA => ?_) rfl rfl rfl rfl rfl
    refine x_on hb2396 hA ?_ rfl rfl rfl
    refine x_val hA (r_ltS rfl (hA.ev rfl) (hA.ev rfl)) (fun ac hA => ?_) rfl rfl rfl
    refine x_pickf hb2396 hA (fun ac hA => ?_) rfl rfl rfl rfl rfl rfl
    replace hS := SH.pure_ h2356 hS
    replace hS := hS.pk 1
    replace hS := obj86_mk (x := y2347.2) hS
    obtain ⟨y2412, h2413, hF⟩ := bnd hF
    rcases y2412 with y2412 | y2412
    rotate_left
    · replace hF := sum_r hF
      refine x_callp (vs := #[.pointer (some ⟨g0, 0, none⟩), .bool (Op.bytesLess x2409 y2347.1)]) en42 hA (RetS.rf (F_column_Reader_Check (L := blk g1 50 [.slice A105 n106 c107] :: own kS 9 A105 n106 c107 a1 :: own kS 9 A2235 n2236 c2237 l2234 :: L) y2347.2 (Op.bytesLess x2409 y2347.1) g0 h2413 (qz + 3) hZ hS)) (fun w hR => ?_) rfl rfl rfl rfl rfl
      replace hS := hR
      obtain ⟨A2414, n2415, c2416, hS⟩ := obj86_open hS
      replace hS := hS.pk 1
      have hQ0 := SH.unpure hS
      clear hS
      obtain ⟨h2417, hS⟩ := hQ0
      replace hS := SH.pure_ h2417 hS
      replace hS := hS.pk 1
      replace hS := obj86_mk (x := y2412) hS
      replace hS := hS.pk 2
      replace hS := hS.pk 2
      replace hS := obj50_mk (x := a1) hS
      replace hS := hS.drop 2
      replace hS := hS.pk 1
      cases hF
      have ht := T2339_ _ rfl
      subst ht
      replace hF := hR2339
      replace hF : some (.inr (y2412, a1)) = some y := hF
      cases hF
      exact hQp _ rfl _ _ hA.defers hS
    replace hF := sum_l hF
    refine x_callw (vs := #[.pointer (some ⟨g0, 0, none⟩), .bool (Op.bytesLess x2409 y2347.1)]) en42 hA (RetS.lf (F_column_Reader_Check (L := blk g1 50 [.slice A105 n106 c107] :: own kS 9 A105 n106 c107 a1 :: own kS 9 A2235 n2236 c2237 l2234 :: L) y2347.2 (Op.bytesLess x2409 y2347.1) g0 h2413 (qz + 3) hZ hS)) (fun v ac w hR hA => ?_) rfl rfl rfl rfl rfl rfl rfl
    obtain ⟨rfl, hS⟩ := hR
    obtain ⟨A2418, n2419, c2420, hS⟩ := obj86_open hS
    replace hS := hS.pk 1
    have hQ0 := SH.unpure hS
    clear hS
    obtain ⟨h2421, hS⟩ := hQ0
    refine wpList_nil ?_
    exact hj2 y2412.f0 hF A2418 n2419 c2420 h2421 ac w (hA.sub _ rfl) hS
  replace hF := iff' hb2343 hF
  refine wp_exit ?_
  cases hF
  exact hx2339_0 l2229 l2234 (T2339_ _ rfl) A2230 n2231 c2232 A2235 n2236 c2237 h2233 ac w (hA.sub _ rfl) hS
set_option maxRecDepth 100000 in
set_option maxHeartbeats 4000000 in
theorem F_Try_column_ReadTexts_1 {r : World} {L : List HP} {w : World} {Z : Nat → Prop} {wz : World} (a0 : (List Int)) (a60 : (List (List UInt8))) (A0 : Option Addr) (n0 : Nat) (c0 : Nat) (g60 : Nat) {y : (Bool × (List (List UInt8)))} (hF : Try_column_ReadTexts_1 a0 a60 = some y) (qz : Nat) (hZ : L[qz]? = some (zone Z wz)) (ha0 : Imm Z wz (kI .u8) A0 n0 c0 a0) (hS : SH r (obj50 g60 a60 :: L) w) :
    Ret Tryd.prog 13 #[.slice A0 n0 c0, .func (.func 45) #[] #[.pointer (some ⟨g60, 0, none⟩)]] w fun v w' => v = .bool y.1 ∧ SH r (obj50 g60 y.2 :: L) w' := by
  obtain ⟨y', hy, hF⟩ := bnd hF
  refine Ret.mono_ (try_walk (R := fun v w' => v = .bool y.1 ∧ SH r (obj50 g60 y.2 :: L) w') en45 hS (fun g g4 w1 hS1 => ?_)) (fun v w' h => h)
  replace hS1 := obj86_mk (x := ⟨a0⟩) (hS1.pk 1 |> fun h => (SH.pure_ ha0 (h.pk 1)).pk 1)
  replace hS1 := hS1.pk 1
  replace hS1 := hS1.pk 2
  replace hS1 := hS1.pk 2
  rcases y' with y' | y'
  · replace hF := sum_l hF
    cases hF
    left
    refine Ret.mono_ (RetS.lf (F_column_ReadTexts_1 (L := blk g4 4 [.bool false] :: L) (⟨a0⟩ : S86) a60 g g60 hy (qz + 1) hZ hS1)) ?_
    rintro v w2 ⟨rfl, hS⟩
    replace hS := hS.pk 2
    replace hS := hS.pk 1
    obtain ⟨A', n', c', hS⟩ := obj86_open hS
    have hQ := SH.unpure (hS.pk 1)
    clear hS
    obtain ⟨hi, hS⟩ := hQ
    refine ⟨_, A', n', c', hS, fun w3 h3 => ⟨?_, h3⟩⟩
    rw [← hi.ln]
  · replace hF := sum_r hF
    cases hF
    right
    refine Calls.mono (RetS.rf (F_column_ReadTexts_1 (L := blk g4 4 [.bool false] :: L) (⟨a0⟩ : S86) a60 g g60 hy (qz + 1) hZ hS1)) ?_
    rintro e w2 ⟨rfl, hS⟩
    replace hS := hS.pk 2
    replace hS := hS.drop 1
    exact ⟨rfl, _, hS, fun w3 h3 => ⟨rfl, h3⟩⟩
set_option maxRecDepth 100000 in
set_option maxHeartbeats 4000000 in
theorem F_column_ReadTexts {r : World} {L : List HP} {w : World} {Z : Nat → Prop} {wz : World} (a0 : (List Int)) (A0 : Option Addr) (n0 : Nat) (c0 : Nat) {y : ((List (List UInt8)) × Int)} (hF : column_ReadTexts a0 = some y) (qz : Nat) (hZ : L[qz]? = some (zone Z wz)) (ha0 : Imm Z wz (kI .u8) A0 n0 c0 a0) (hS : SH r (L) w) :
    Ret Tryd.prog 17 #[.slice A0 n0 c0] w fun v w' => ∃ (B0 : Option Addr) (m0 : Nat) (d0 : Nat), v = .tuple #[(.slice B0 m0 d0), (.int .i64 y.2)] ∧ SH r (own kS 9 B0 m0 d0 y.1 :: L) w' := by
  refine enter Tryd.func17 rfl Tryd.ntmps17 [(0, .slice A0 n0 c0)] rfl (by simp) ?_
  intro ac hA Qf hQ hQn
  unfold column_ReadTexts at hF
  refine wp_seq_k fun K101 hK101 => ?_
  refine wp_reg ?_
  refine x_assign hA (fun ac hA => ?_) rfl rfl rfl rfl rfl
  refine x_assign hA (fun ac hA => ?_) rfl rfl rfl rfl rfl
  refine wpList_nil ?_
  refine hK101 _ _ ?_
  refine wp_seq_k fun K102 hK102 => ?_
  refine wp_reg ?_
  refine x_alloc (cs := [.slice none 0 0]) zr50 hA hS (fun g103 ac w hS hA => ?_) rfl rfl rfl rfl rfl
  refine wpList_nil ?_
  refine hK102 _ _ ?_
  refine wp_seq_k fun K104 hK104 => ?_
  refine wp_reg ?_
  refine x_move hA (fun ac hA => ?_) rfl rfl rfl rfl rfl
  refine x_val hA (r_makeFunc rfl (mapev (vals := #[]) hA rfl) (mapev (vals := #[.pointer (some ⟨g103, 0, none⟩)]) hA rfl)) (fun ac hA => ?_) rfl rfl rfl
  replace hS := SH.nil_own (d := kS) (e := 9) hS
  replace hS := hS.pk 1
  replace hS := obj50_mk (x := []) hS
  obtain ⟨y105, h106, hF⟩ := bnd hF
  refine x_call en13 hA (F_Try_column_ReadTexts_1 (L := L) a0 [] A0 n0 c0 g103 h106 (qz + 0) hZ ha0 hS) (fun v ac w hR hA => ?_) rfl rfl rfl rfl rfl
  obtain ⟨rfl, hS⟩ := hR
  obtain ⟨A107, n108, c109, hS⟩ := obj50_open hS
  refine x_assign hA (fun ac hA => ?_) rfl rfl rfl rfl rfl
  refine wpList_nil ?_
  refine hK104 _ _ ?_
  refine wp_seq_k fun K110 hK110 => ?_
  refine wp_seq_k fun K111 hK111 => ?_
  refine wp_reg ?_
  refine x_move hA (fun ac hA => ?_) rfl rfl rfl rfl rfl
  refine x_val hA (r_not rfl (hA.ev rfl)) (fun ac hA => ?_) rfl rfl rfl
  refine wpList_nil ?_
  refine hK111 _ _ ?_
  refine c_if hA rfl (fun hb112 => ?_) fun hb112 => ?_
  · replace hF := ift hb112 hF
    refine wp_seq_k fun K113 hK113 => ?_
    refine wp_reg ?_
    refine x_assign hA (fun ac hA => ?_) rfl rfl rfl rfl rfl
    refine x_assign hA (fun ac hA => ?_) rfl rfl rfl rfl rfl
    refine wpList_nil ?_
    refine hK113 _ _ ?_
    refine wp_ret ?_
    replace hS := SH.nil_own (d := kS) (e := 9) hS
    replace hS := hS.drop 1
    replace hS := hS.drop 1
    cases hF
    refine hQ _ _ ?_
    refine lv2 Tryd.results17 hA rfl rfl ?_
    exact ⟨none, 0, 0, rfl, hS⟩
  replace hF := iff' hb112 hF
  refine wp_skip ?_
  refine hK110 _ _ ?_
  refine wp_seq_k fun K114 hK114 => ?_
  refine wp_reg ?_
  refine x_ld Tryd.underlying50 (hS.cell 0 rfl 0 _ rfl) hA (fun ac hA => ?_) rfl rfl rfl rfl rfl rfl
  refine x_assign hA (fun ac hA => ?_) rfl rfl rfl rfl rfl
  refine x_assign hA (fun ac hA => ?_) rfl rfl rfl rfl rfl
  refine wpList_nil ?_
  refine hK114 _ _ ?_
  refine wp_ret ?_
  replace hS := hS.drop 0
  cases hF
  refine hQ _ _ ?_
  refine lv2 Tryd.results17 hA rfl rfl ?_
  exact ⟨A107, n108, c109, rfl, hS⟩
end Go.Proofs.YthokgnonmcgkcaaDoor.M
namespace Go.Proofs
open Go.RowKit Go.Maps Go.Sort Go.Shelf
def Tryd.sortL_ren : Go.Shelf.Ren := ⟨fun | 190 => 78 | 125 => 89 | 258 => 88 | 128 => 100 | 129 => 86 | 302 => 92 | 303 => 93 | 304 => 94 | 305 => 95 | 306 => 96 | 307 => 97 | 308 => 80 | 309 => 98 | 310 => 99 | 333 => 102 | 329 => 103 | 330 => 104 | 334 => 105 | 335 => 106 | 336 => 90 | 344 => 107 | n => n, fun | 31 => 50 | 9 => 9 | 3 => 3 | 46 => 108 | 0 => 0 | 51 => 79 | 53 => 36 | 4 => 4 | 183 => 131 | 182 => 130 | 131 => 105 | 5 => 5 | 218 => 137 | 222 => 141 | 228 => 143 | 229 => 144 | n => n, fun | n => n⟩
theorem Tryd.sortL : Go.Proofs.Lays.n190 Tryd.prog Tryd.sortL_ren := {
  mixed := by kernel_rfl
  f125 := Tryd.func89.trans (congrArg some (by kernel_rfl))
  f128 := Tryd.func100.trans (congrArg some (by kernel_rfl))
  f129 := Tryd.func86.trans (congrArg some (by kernel_rfl))
  f190 := Tryd.func78.trans (congrArg some (by kernel_rfl))
  f258 := Tryd.func88.trans (congrArg some (by kernel_rfl))
  f302 := Tryd.func92.trans (congrArg some (by kernel_rfl))
  f303 := Tryd.func93.trans (congrArg some (by kernel_rfl))
  f304 := Tryd.func94.trans (congrArg some (by kernel_rfl))
  f305 := Tryd.func95.trans (congrArg some (by kernel_rfl))
  f306 := Tryd.func96.trans (congrArg some (by kernel_rfl))
  f307 := Tryd.func97.trans (congrArg some (by kernel_rfl))
  f308 := Tryd.func80.trans (congrArg some (by kernel_rfl))
  f309 := Tryd.func98.trans (congrArg some (by kernel_rfl))
  f310 := Tryd.func99.trans (congrArg some (by kernel_rfl))
  f329 := Tryd.func103.trans (congrArg some (by kernel_rfl))
  f330 := Tryd.func104.trans (congrArg some (by kernel_rfl))
  f333 := Tryd.func102.trans (congrArg some (by kernel_rfl))
  f334 := Tryd.func105.trans (congrArg some (by kernel_rfl))
  f335 := Tryd.func106.trans (congrArg some (by kernel_rfl))
  f336 := Tryd.func90.trans (congrArg some (by kernel_rfl))
  f344 := Tryd.func107.trans (congrArg some (by kernel_rfl))
  t0 := Tryd.underlying0
  a0 := Tryd.isAgg0
  z0 := Tryd.sizeOf0
  v0 := Tryd.zeroValue0
  t3 := Tryd.underlying3
  a3 := Tryd.isAgg3
  z3 := Tryd.sizeOf3
  v3 := Tryd.zeroValue3
  t4 := Tryd.underlying4
  a4 := Tryd.isAgg4
  z4 := Tryd.sizeOf4
  v4 := Tryd.zeroValue4
  t5 := Tryd.underlying5
  a5 := Tryd.isAgg5
  z5 := Tryd.sizeOf5
  v5 := Tryd.zeroValue5
  t9 := Tryd.underlying9
  a9 := Tryd.isAgg9
  z9 := Tryd.sizeOf9
  v9 := Tryd.zeroValue9
  t31 := Tryd.underlying50
  a31 := Tryd.isAgg50
  z31 := Tryd.sizeOf50
  v31 := Tryd.zeroValue50
  t46 := Tryd.underlying108
  a46 := Tryd.isAgg108
  z46 := Tryd.sizeOf108
  v46 := Tryd.zeroValue108
  t51 := Tryd.underlying79
  a51 := Tryd.isAgg79
  z51 := Tryd.sizeOf79
  v51 := Tryd.zeroValue79
  t53 := Tryd.underlying36
  a53 := Tryd.isAgg36
  z53 := Tryd.sizeOf36
  v53 := Tryd.zeroValue36
  t131 := Tryd.underlying105
  a131 := Tryd.isAgg105
  z131 := Tryd.sizeOf105
  v131 := Tryd.zeroValue105
  t182 := Tryd.underlying130
  a182 := Tryd.isAgg130
  z182 := Tryd.sizeOf130
  v182 := Tryd.zeroValue130
  t183 := Tryd.underlying131
  a183 := Tryd.isAgg131
  z183 := Tryd.sizeOf131
  v183 := Tryd.zeroValue131
  t218 := Tryd.underlying137
  a218 := Tryd.isAgg137
  z218 := Tryd.sizeOf137
  v218 := Tryd.zeroValue137
  t222 := Tryd.underlying141
  a222 := Tryd.isAgg141
  z222 := Tryd.sizeOf141
  v222 := Tryd.zeroValue141
  t228 := Tryd.underlying143
  a228 := Tryd.isAgg143
  z228 := Tryd.sizeOf143
  v228 := Tryd.zeroValue143
  t229 := Tryd.underlying144
  a229 := Tryd.isAgg144
  z229 := Tryd.sizeOf144
  v229 := Tryd.zeroValue144 }
def Tryd.compactL_ren : Go.Shelf.Ren := ⟨fun | 194 => 58 | n => n, fun | 31 => 50 | 9 => 9 | 3 => 3 | 4 => 4 | 0 => 0 | n => n, fun | n => n⟩
theorem Tryd.compactL : Go.Proofs.Lays.n194 Tryd.prog Tryd.compactL_ren := {
  mixed := by kernel_rfl
  f194 := Tryd.func58.trans (congrArg some (by kernel_rfl))
  t0 := Tryd.underlying0
  a0 := Tryd.isAgg0
  z0 := Tryd.sizeOf0
  v0 := Tryd.zeroValue0
  t3 := Tryd.underlying3
  a3 := Tryd.isAgg3
  z3 := Tryd.sizeOf3
  v3 := Tryd.zeroValue3
  t4 := Tryd.underlying4
  a4 := Tryd.isAgg4
  z4 := Tryd.sizeOf4
  v4 := Tryd.zeroValue4
  t9 := Tryd.underlying9
  a9 := Tryd.isAgg9
  z9 := Tryd.sizeOf9
  v9 := Tryd.zeroValue9
  t31 := Tryd.underlying50
  a31 := Tryd.isAgg50
  z31 := Tryd.sizeOf50
  v31 := Tryd.zeroValue50 }
def Tryd.sortedL_ren : Go.Shelf.Ren := ⟨fun | 6 => 59 | 8 => 77 | 9 => 78 | 11 => 87 | 13 => 89 | 12 => 88 | 23 => 100 | 24 => 86 | 14 => 92 | 15 => 93 | 16 => 94 | 17 => 95 | 18 => 96 | 19 => 97 | 20 => 80 | 21 => 98 | 22 => 99 | 25 => 102 | 26 => 103 | 27 => 104 | 28 => 105 | 29 => 106 | 30 => 90 | 31 => 107 | n => n, fun | 26 => 9 | 28 => 102 | 24 => 50 | 0 => 0 | 3 => 3 | 37 => 108 | 48 => 79 | 50 => 36 | 4 => 4 | 40 => 131 | 39 => 130 | 45 => 105 | 5 => 5 | 9 => 9 | 51 => 137 | 55 => 141 | 57 => 143 | 58 => 144 | 33 => 119 | n => n, fun | n => n⟩
theorem Tryd.sortedL : Go.Proofs.SlLaysZ.n6 Tryd.prog Tryd.sortedL_ren := {
  mixed := by kernel_rfl
  f6 := ⟨ "slices.Sorted[string]", by decide, Tryd.func59.trans (congrArg some (by kernel_rfl))⟩
  f8 := ⟨ "slices.Collect[string]", by decide, Tryd.func77.trans (congrArg some (by kernel_rfl))⟩
  f11 := ⟨ "slices.AppendSeq[[]string,string]", by decide, Tryd.func87.trans (congrArg some (by kernel_rfl))⟩
  t0 := Tryd.underlying0
  a0 := Tryd.isAgg0
  z0 := Tryd.sizeOf0
  v0 := Tryd.zeroValue0
  t24 := Tryd.underlying50
  a24 := Tryd.isAgg50
  z24 := Tryd.sizeOf50
  v24 := Tryd.zeroValue50
  t26 := Tryd.underlying9
  a26 := Tryd.isAgg9
  z26 := Tryd.sizeOf9
  v26 := Tryd.zeroValue9
  t28 := Tryd.underlying102
  a28 := Tryd.isAgg102
  z28 := Tryd.sizeOf102
  v28 := Tryd.zeroValue102
  i26 := by kernel_rfl }
set_option maxRecDepth 100000 in
set_option maxHeartbeats 2000000 in
theorem values_gives (n : Nat) (hn : 1 ≤ n) (l Bx B : Nat) (W0 : World) (A : Option Addr) (c : Nat) (xs : List (List UInt8)) (hl : xs.length ≤ 4611686018427387904) (J : List (List UInt8) → World → Prop)
    (hJB : ∀ ss W1, J ss W1 → Below B W0 W1) (hBx : Bx < B) (hbox : W0.cell? ⟨Bx, 0, none⟩ = some (.slice A xs.length c))
    (hrow : 0 < xs.length → ∃ b off, A = some ⟨b, off, none⟩ ∧ b < B ∧ ∀ j x, xs[j]? = some x → W0.cell? ⟨b, off + j, none⟩ = some (encStr x))
    (hY : ∀ pre x W1, J pre W1 → pre.length < xs.length → YieldAt Fence.wide (n - 1) Tryd.prog l #[encStr x] W1 fun e W' => e = .returned (.bool true) ∧ J (pre ++ [x]) W' ∧ KeepsWalks W1 W')
    (W : World) (h0 : J [] W) :
    CallsIn Fence.wide n Tryd.prog 79 #[.func (.yield l) #[] #[], .pointer (some ⟨Bx, 0, none⟩)] W fun e W' => (∃ v, e = .returned v) ∧ J xs W' := by
  have hb1 := (hJB _ _ h0)
  have hx0 : W.cell? ⟨Bx, 0, none⟩ = some (.slice A xs.length c) := (hb1.cell (p := ⟨Bx, 0, none⟩) hBx).trans hbox
  refine callsIn_of_wp Tryd.func79 rfl trivial ?_ rfl
  simp only [Tryd.ntmps79, List.size_toArray, List.length_cons, List.length_nil, Nat.reduceAdd, Nat.reduceSub, Array.replicate_succ, Array.replicate_zero, List.push_toArray, List.append_toArray, List.nil_append, List.cons_append]
  gi_wp2
  gi_loopw [7] (fun s7 wr => ∃ k : Nat, s7 = .int .i64 k ∧ k ≤ xs.length ∧ J (xs.take k) wr) (fun s7 _ => match s7 with | .int .i64 k => (xs.length : Int).toNat - k.toNat | _ => 0)
  case atStart => exact ⟨0, rfl, Nat.zero_le _, by simpa using h0⟩
  case round =>
    obtain ⟨k, rfl, hk, hJk⟩ := hrel
    by_cases hlt : k < xs.length
    · obtain ⟨b, off, rfl, hb, hcell⟩ := hrow (by omega)
      have hx := List.getElem?_eq_getElem hlt
      have hc := ((hJB _ _ hJk).cell (p := ⟨b, off + k, none⟩) hb).trans (hcell k _ hx)
      obtain ⟨x, hxx⟩ : ∃ x, x = xs[k] := ⟨_, rfl⟩
      rw [← hxx] at hc hx
      have hkl : (xs.take k).length = k := by simp; omega
      obtain ⟨fn, tmps, assign, body, hy, hR⟩ := hY (xs.take k) x wr hJk (by omega)
      clear hrow hcell hxx
      gi_wp2
      refine hR.mono ?_
      rintro e W3 ⟨rfl, hJ3, hk3⟩
      gi_wp2
      go_roundw
      case rel => exact ⟨k + 1, by simp, by omega, by rw [List.take_add_one, hx]; exact hJ3⟩
      case measure => simp; omega
    · have : k = xs.length := by omega
      subst this
      gi_wp2
      go_end0
      exact ⟨⟨_, rfl⟩, by simpa using hJk⟩
set_option maxRecDepth 100000 in
set_option maxHeartbeats 2000000 in
theorem appendSeq_values (Bx : Nat) (w : World) (A : Option Addr) (c : Nat) (xs : List (List UInt8)) (hl : xs.length * 16 ≤ 140737488355328) (hBx : Bx < w.heap.size) (hbox : w.cell? ⟨Bx, 0, none⟩ = some (.slice A xs.length c))
    (hrow : 0 < xs.length → ∃ b off, A = some ⟨b, off, none⟩ ∧ b < w.heap.size ∧ ∀ j x, xs[j]? = some x → w.cell? ⟨b, off + j, none⟩ = some (encStr x)) :
    Calls Tryd.prog 87 #[.slice none 0 0, .func (.func 79) #[] #[.pointer (some ⟨Bx, 0, none⟩)]] w fun e w' => ∃ v, e = .returned v ∧ w'.ownsRow w.heap.size 9 1 v xs.length (xs.map encStr) ∧ (v = .slice none 0 0 ↔ xs = []) ∧ Below w.heap.size w w' := by
  refine (callsIn_wide (n := 5)).1 ?_
  obtain ⟨sv, hsv⟩ : ∃ sv : Value, sv = .func (.func 79) #[] #[.pointer (some ⟨Bx, 0, none⟩)] := ⟨_, rfl⟩
  have hsv' := hsv
  refine callsIn_of_wp_marks Tryd.func87 rfl trivial ?_ rfl
  simp only [Tryd.ntmps87, List.size_toArray, List.length_cons, List.length_nil, Nat.reduceAdd, Nat.reduceSub, Array.replicate_succ, Array.replicate_zero, List.push_toArray, List.append_toArray, List.nil_append, List.cons_append]
  gi_wp2
  refine wpIn_rangeFunc ?_
  intro fn hfn
  rw [show Fence.wide.round = none from rfl]
  let ρ := Tryd.sortedL_ren
  obtain ⟨W0, hW0⟩ : ∃ W0, w.alloc (.cells #[.slice none 0 0] 50) = W0 := ⟨_, rfl⟩
  have hs0 : W0.heap.size = w.heap.size + 1 := by rw [← hW0]; simp
  have hv0 : W0.heap[w.heap.size]? = some (.cells #[.slice none 0 0] 50 (0, 0)) := by rw [← hW0]; exact World.alloc_heap_new w _
  have hb0 : Below w.heap.size w W0 := by rw [← hW0]; exact (Below.refl _ w).alloc (Nat.le_refl _) _
  rw [hW0]
  obtain ⟨W1, hW1⟩ : ∃ W1, (W0.alloc (.deferred (some []))).alloc (.loop (AnyZ.apRec ρ fn sv w.heap.size W0.heap.size .ready none)) = W1 := ⟨_, rfl⟩
  have hold : ∀ k, k < W0.heap.size → W1.heap[k]? = W0.heap[k]? := fun k hk => by
    rw [← hW1]; exact (Below.heap_alloc _ _ k (by simp; omega)).trans (Below.heap_alloc _ _ k hk)
  have hb1 : Below w.heap.size w W1 := by rw [← hW1]; exact (hb0.alloc hb0.size _).alloc (by have := hb0.size; simp; omega) _
  have hM : AnyZ.ApAt ρ w fn sv w.heap.size (W0.heap.size + 1) W0.heap.size [] W1 :=
    ⟨⟨_, (hold w.heap.size (by omega)).trans hv0, ⟨rfl, .inl ⟨rfl, rfl⟩⟩, by simp⟩,
     by rw [← hW1]; have := World.alloc_heap_new (W0.alloc (.deferred (some []))) (.loop (AnyZ.apRec ρ fn sv w.heap.size W0.heap.size .ready none)); rwa [World.size_alloc] at this,
     by rw [← hW1]; exact (Below.heap_alloc _ _ _ (by simp)).trans (World.alloc_heap_new W0 _), hb1⟩
  refine ⟨W0.heap.size + 1, [{ target := .collected W0.heap.size, args := #[] }], W1, { target := .fn (.func 79) #[.pointer (some ⟨Bx, 0, none⟩)], args := #[.func (.yield (W0.heap.size + 1)) #[] #[]] }, W1, 79,
    #[.func (.yield (W0.heap.size + 1)) #[] #[]] ++ #[.pointer (some ⟨Bx, 0, none⟩)], W1, ?_, ?_, ?_, ?_, fun _ => by omega, ?_⟩
  · rw [← hW1, hsv]; exact run_enterLoop_outer _ _ _ _ _
  · simp [resolve, go_sem]
  · intro f' hf'; trivial
  · simp [invoke, go_sem]
  · have hcur := AnyZ.apYield (ρ := ρ) (P := Tryd.prog) { Tryd.sortedL with } Fence.wide 3 w fn hfn sv w.heap.size (W0.heap.size + 1) W0.heap.size (by omega) (by omega) (by omega) (Nat.le_refl _) (by omega) xs.length (by unfold maxLen; omega) hl
    refine (values_gives 4 (by omega) (W0.heap.size + 1) Bx w.heap.size w A c xs (by omega) (AnyZ.ApAt ρ w fn sv w.heap.size (W0.heap.size + 1) W0.heap.size) (fun ss W1 h => h.below) hBx hbox hrow
      (fun pre x W hJ hlt => hcur pre x W hJ hlt) W1 hM).mono ?_
    rintro e W2 ⟨⟨v0, rfl⟩, h2⟩
    obtain ⟨v, hv, hr, hnil⟩ := h2.box
    have hend := run_endLoop (P := Tryd.prog) h2.L (by simp [AnyZ.apRec])
    obtain ⟨W3, hW3⟩ : ∃ W3, W2.putObj (W0.heap.size + 1) (.loop { AnyZ.apRec ρ fn sv w.heap.size W0.heap.size .ready none with state := .exhausted }) = W3 := ⟨_, rfl⟩
    rw [hW3] at hend
    have hg3 : W2.grownBy W3 (some (W0.heap.size + 1)) := by rw [← hW3]; exact grownBy_putObj_a _ _ _
    have hv3 : W3.heap[w.heap.size]? = some (.cells #[v] 50 (0, 0)) := by rw [← hW3]; exact (World.putObj_heap_other (by omega)).trans hv
    have hK3 : W3.heap[W0.heap.size]? = some (.deferred (some [])) := by rw [← hW3]; exact (World.putObj_heap_other (by omega)).trans h2.K
    have hr3 := hr.kept hg3 (ownsRow_ne_a hr h2.L (fun cur e => by cases e))
    have hb3 : Below w.heap.size w W3 := h2.below.grown hg3 h2.below.size (fun k e => by cases e; omega)
    obtain ⟨hc3, hf3⟩ := cell_of_box_a hv3
    clear hW3
    refine ⟨none, W3, hend, ?_⟩
    gi_wp2
    rw [← hs0]
    refine ⟨by simp, .inl ⟨_, _, rfl, run_takeDeferred hK3, ?_⟩⟩
    exact ⟨_, results_tmp rfl _ _ _, v, rfl, hr3.kept (grownBy_putObj_a _ _ _) (ownsRow_ne_a hr3 hK3 (fun cur e => by cases e)), hnil, hb3.grown (grownBy_putObj_a _ _ _) hb3.size (fun k e => by cases e; omega)⟩
set_option maxRecDepth 100000 in
set_option maxHeartbeats 2000000 in
theorem collect_values (Bx : Nat) (w : World) (A : Option Addr) (c : Nat) (xs : List (List UInt8)) (hl : xs.length * 16 ≤ 140737488355328) (hBx : Bx < w.heap.size) (hbox : w.cell? ⟨Bx, 0, none⟩ = some (.slice A xs.length c))
    (hrow : 0 < xs.length → ∃ b off, A = some ⟨b, off, none⟩ ∧ b < w.heap.size ∧ ∀ j x, xs[j]? = some x → w.cell? ⟨b, off + j, none⟩ = some (encStr x)) :
    Calls Tryd.prog 77 #[.func (.func 79) #[] #[.pointer (some ⟨Bx, 0, none⟩)]] w fun e w' => ∃ v, e = .returned v ∧ w'.ownsRow w.heap.size 9 1 v xs.length (xs.map encStr) ∧ (v = .slice none 0 0 ↔ xs = []) ∧ Below w.heap.size w w' := by
  refine (callsIn_wide (n := 6)).1 ?_
  have cS := (callsIn_wide (n := 5)).2 (appendSeq_values Bx w A c xs hl hBx hbox hrow)
  refine callsIn_of_wp Tryd.func77 rfl trivial ?_ rfl
  simp only [Tryd.ntmps77, List.size_toArray, List.length_cons, List.length_nil, Nat.reduceAdd, Nat.reduceSub, Array.replicate_succ, Array.replicate_zero, List.push_toArray, List.append_toArray, List.nil_append, List.cons_append]
  have hfS : Fence.wide.fn 87 := trivial
  gi_wp2_with (gi_at_call 87; refine cS.mono ?_; rintro e w' ⟨v, rfl, hr, hnil, hb⟩)
  go_ret
  exact ⟨v, rfl, hr, hnil, hb⟩
set_option maxRecDepth 100000 in
set_option maxHeartbeats 2000000 in
theorem sorted_values (Bx : Nat) (w : World) (A : Option Addr) (c : Nat) (xs : List (List UInt8)) (hl : xs.length * 16 ≤ 140737488355328) (hBx : Bx < w.heap.size) (hbox : w.cell? ⟨Bx, 0, none⟩ = some (.slice A xs.length c))
    (hrow : 0 < xs.length → ∃ b off, A = some ⟨b, off, none⟩ ∧ b < w.heap.size ∧ ∀ j x, xs[j]? = some x → w.cell? ⟨b, off + j, none⟩ = some (encStr x)) :
    Calls Tryd.prog 59 #[.func (.func 79) #[] #[.pointer (some ⟨Bx, 0, none⟩)]] w fun e w' => ∃ v, e = .returned v ∧ w'.ownsRow w.heap.size 9 1 v xs.length ((xs.mergeSort fun x y => decide (x ≤ y)).map encStr) ∧ (v = .slice none 0 0 ↔ xs = []) ∧ Below w.heap.size w w' := by
  refine (callsIn_wide (n := 7)).1 ?_
  have cS := (callsIn_wide (n := 6)).2 (collect_values Bx w A c xs hl hBx hbox hrow)
  refine callsIn_of_wp Tryd.func59 rfl trivial ?_ rfl
  simp only [Tryd.ntmps59, List.size_toArray, List.length_cons, List.length_nil, Nat.reduceAdd, Nat.reduceSub, Array.replicate_succ, Array.replicate_zero, List.push_toArray, List.append_toArray, List.nil_append, List.cons_append]
  have hfS : Fence.wide.fn 77 := trivial
  have hfT : Fence.wide.fn 78 := trivial
  gi_wp2_with (gi_at_call 77; refine cS.mono ?_; rintro e W ⟨v, rfl, hr, hnil, hb⟩)
  rcases hr.2 with ⟨rfl, hz⟩ | ⟨gb, cap, cur, rfl, hbase, hgb, r1, r2, r3, r4⟩
  · have hss : xs = [] := List.eq_nil_of_length_eq_zero hz
    subst hss
    have cT := (callsIn_wide (n := 6)).2 (Any.slices_Sort_string_none Tryd.sortL none 0 W)
    change CallsIn _ _ Tryd.prog 78 _ _ _ at cT
    gi_wp2_with (gi_at_call 78; refine cT.mono ?_; rintro e w' ⟨rfl, rfl⟩)
    go_ret
    exact ⟨_, rfl, by simpa using hr, by simp, hb⟩
  · have hH : Holds encStr W gb 0 xs.toArray := holds_of_block hgb (by simpa using r4)
    have hgl : gb < W.heap.size := (Array.getElem?_eq_some_iff.1 hgb).1
    have cT := (callsIn_wide (n := 6)).2 (Any.slices_Sort_string Tryd.sortL gb 0 cap xs W hH hgl (by omega))
    change CallsIn _ _ Tryd.prog 78 _ _ _ at cT
    gi_wp2_with (gi_at_call 78; refine cT.mono ?_; rintro e w' ⟨rfl, nn, os, rfl⟩)
    go_ret
    exact ⟨_, rfl, ownsRow_sorted (by simp) hbase hgb r1 r2 r3, hnil, hb.grown (grownBy_sorted _) hb.size (fun j hj => by cases hj; exact hbase)⟩
end Go.Proofs
namespace Go.Proofs.YthokgnonmcgkcaaDoor.M
open Go Go.RowKit Go.Proofs.YthokgnonmcgkcaaDoor.E
noncomputable def slices_Sorted_string (a0 : List (List UInt8)) : Option (List (List UInt8)) := chk (a0.length * 16 ≤ 140737488355328) (some (a0.mergeSort fun x y => decide (x ≤ y)))
noncomputable def slices_Compact_string (a0 : List (List UInt8)) : Option (List (List UInt8)) := some (Lib.compact a0)
end Go.Proofs.YthokgnonmcgkcaaDoor.M
namespace Go.Proofs.YthokgnonmcgkcaaDoor.M
open Go Go.RowKit Go.Proofs.YthokgnonmcgkcaaDoor.E
set_option linter.unusedVariables false
theorem F_slices_Values {r w : World} {L : List HP} {A : Option Addr} {n c : Nat} (hS : SH r L w) :
    Ret Tryd.prog 60 #[.slice A n c] w fun v w' => ∃ g, v = .func (.func 79) #[] #[.pointer (some ⟨g, 0, none⟩)] ∧ SH r (blk g 50 [.slice A n c] :: L) w' := by
  refine enter Tryd.func60 rfl Tryd.ntmps60 [(0, .slice A n c)] rfl (by simp) ?_
  intro ac hA Qf hQ hQn
  refine wp_seq_k fun K1 hK1 => ?_
  refine wp_reg ?_
  refine x_box hA hS (fun g ac w hS hA => ?_) rfl rfl rfl rfl rfl rfl
  refine x_assign hA (fun ac hA => ?_) rfl rfl rfl rfl rfl
  refine wpList_nil ?_
  refine hK1 _ _ ?_
  refine wp_seq_k fun K2 hK2 => ?_
  refine wp_reg ?_
  refine x_val hA (r_makeFunc rfl (mapev (vals := #[]) hA rfl) (mapev (vals := #[.pointer (some ⟨g, 0, none⟩)]) hA rfl)) (fun ac hA => ?_) rfl rfl rfl
  refine x_assign hA (fun ac hA => ?_) rfl rfl rfl rfl rfl
  refine wpList_nil ?_
  refine hK2 _ _ ?_
  refine wp_ret ?_
  refine hQ _ _ ?_
  refine lv Tryd.results60 hA rfl ?_
  exact ⟨g, rfl, hS⟩
theorem F_slices_Sorted {r w : World} {L : List HP} (xs : List (List UInt8)) {g : Nat} {A : Option Addr} {n c : Nat} {y : List (List UInt8)} (hF : slices_Sorted_string xs = some y) (ha : RdL L kS A n c xs) (hS : SH r (blk g 50 [.slice A n c] :: L) w) :
    Ret Tryd.prog 59 #[.func (.func 79) #[] #[.pointer (some ⟨g, 0, none⟩)]] w fun v w' => ∃ (A' : Option Addr) (n' c' : Nat), v = .slice A' n' c' ∧ SH r (own kS 9 A' n' c' y :: L) w' := by
  obtain ⟨hsz, hF⟩ := chk_some hF
  cases hF
  obtain ⟨S1, S2, h1, h2, hd, hA, hL⟩ := hS.head
  have hg := hA.2
  have hgl : g < w.heap.size := (Array.getElem?_eq_some_iff.1 hg).1
  have hln := ha.ln
  subst hln
  refine Calls.mono (sorted_values g w A c xs hsz hgl (by simp [World.cell?, hg]) fun hpos => ?_) ?_
  · obtain ⟨ad, e, hr⟩ := ha.rd w S2 hL hpos
    have hc : ∀ j x, xs[j]? = some x → w.cell? (ad.add j) = some (encStr x) := fun j x hx => by
      obtain ⟨cs, hV, h3⟩ := hr j x hx
      have hV' : cs = [str x] := hV
      subst hV'
      have := h3 0 (str x) rfl
      rw [show j * kS.sz + 0 = j from by show j * 1 + 0 = j; omega] at this
      exact this
    obtain ⟨x, hx⟩ : ∃ x, xs[0]? = some x := ⟨_, List.getElem?_eq_getElem hpos⟩
    have h0 := hc 0 x hx
    obtain ⟨b, off, sp⟩ := ad
    have hsp : sp = none := by simpa [Addr.add] using World.cell?_spot h0
    subst hsp
    refine ⟨b, off, e, ?_, fun j x hx => ?_⟩
    · have : w.cell? ⟨b, off, none⟩ = some (encStr x) := by simpa [Addr.add] using h0
      unfold World.cell? at this
      split at this
      · rename_i hq; exact (Array.getElem?_eq_some_iff.1 hq).1
      · cases this
    · have := hc j x hx
      unfold Addr.add at this
      split at this
      · rename_i hj; subst hj; exact this
      · exact this
  · rintro ev w' ⟨v, rfl, hr, _, hb⟩
    obtain ⟨A', n', c', rfl, hS'⟩ := hS.tail.newrow (d := kS) (xs := xs.mergeSort fun x y => decide (x ≤ y)) hb (by rw [List.length_mergeSort]; exact hr) (lay_kS _)
    exact ⟨_, rfl, A', n', c', rfl, hS'⟩
theorem F_slices_Compact {r w : World} {L : List HP} (xs : List (List UInt8)) {A : Option Addr} {n c : Nat} {y : List (List UInt8)} (hF : slices_Compact_string xs = some y) (hS : SH r (own kS 9 A n c xs :: L) w) :
    Ret Tryd.prog 58 #[.slice A n c] w fun v w' => ∃ (A' : Option Addr) (n' c' : Nat), v = .slice A' n' c' ∧ SH r (own kS 9 A' n' c' y :: L) w' := by
  cases hF
  obtain ⟨S1, S2, h1, h2, hd, hA, hL⟩ := hS.head
  obtain ⟨hn, ⟨inner, hLy, ho⟩, hg⟩ := hA
  subst hn
  have hle := own_le (d := kS) (e := 9) ⟨rfl, ⟨inner, hLy, ho⟩, hg⟩
  obtain rfl := lay_kS_eq hLy
  rcases ho.2 with ⟨hv, h0⟩ | ⟨g, cap, cur, hv, hg0, hh, hnc, hcm, hs, ht⟩
  · injection hv with e1 e2 e3
    subst e1; subst e3
    have hx : xs = [] := List.eq_nil_of_length_eq_zero h0
    subst hx
    have cC := Any.slices_Compact_string_empty Tryd.compactL none 0 w
    change Calls Tryd.prog 58 _ _ _ at cC
    refine cC.mono ?_
    rintro ev w' ⟨rfl, rfl⟩
    exact ⟨_, rfl, none, 0, 0, rfl, hS⟩
  · injection hv with e1 e2 e3
    subst e1; subst e3
    have hH : Go.Sort.Holds encStr w g 0 xs.toArray := holds_of_block hh (by rw [show xs.length * kS.sz = xs.length from by show _ * 1 = _; omega] at ht; exact ht)
    have cC := Any.slices_Compact_string Tryd.compactL g 0 c xs w hH (by unfold maxLen at hcm; omega) hnc
    change Calls Tryd.prog 58 _ _ _ at cC
    refine cC.mono ?_
    rintro ev w' ⟨rfl, q, rfl⟩
    have hcl : (Lib.compact xs).length ≤ xs.length := compact_len xs
    refine ⟨_, rfl, some ⟨g, 0, none⟩, (Lib.compact xs).length, c, rfl, ?_⟩
    have hr := ownsRow_sorted (w := w) (base := 0) (n := q) (os := #[]) (ss := xs) (ts := Lib.compact xs ++ List.replicate (xs.length - (Lib.compact xs).length) []) (by simp; omega) (Nat.zero_le _) hh hnc hcm hs
    rw [Go.Sort.grow_empty] at hr
    have hgb := grownBy_sorted (w := w) (g := g) (n := q) (os := #[]) (Lib.compact xs ++ List.replicate (xs.length - (Lib.compact xs).length) ([] : List UInt8)).toArray
    rw [Go.Sort.grow_empty] at hgb
    obtain ⟨q1, q2, q3, q4, q5⟩ := hgb
    refine hS.upd (Ls := [own kS 9 (some ⟨g, 0, none⟩) (Lib.compact xs).length c (Lib.compact xs)]) h1 h2 hd hL q1 q2 q3 q4 (fun k hk hnk => q5 k hk fun e => hnk (by cases e; exact hg g rfl)) fun S hSS _ _ => ?_
    refine ⟨S, fun _ => False, fun k hk => hk, fun k hk => hk.elim, fun k _ hk => hk, ⟨rfl, ⟨_, lay_kS _, ?_⟩, fun k hk => by cases hk; exact hSS g (hg g rfl)⟩, trivial⟩
    refine ⟨by simp [kS], ?_⟩
    rcases hr.2 with ⟨hv2, _⟩ | ⟨g2, cap2, cur2, hv2, _, hh2, hnc2, hcm2, hs2, ht2⟩
    · cases hv2
    · injection hv2 with e1 e2 e3
      injection e1 with e1
      injection e1 with e1
      subst e1; subst e3
      refine .inr ⟨g, c, cur2, rfl, Nat.zero_le _, hh2, by omega, hcm2, hs2, ?_⟩
      have h5 := congrArg (List.take (Lib.compact xs).length) ht2
      rw [List.take_take, Nat.min_eq_left (by omega), List.map_append, List.take_left' (by simp)] at h5
      rw [show (Lib.compact xs).length * kS.sz = (Lib.compact xs).length from by show _ * 1 = _; omega]
      exact h5
end Go.Proofs.YthokgnonmcgkcaaDoor.M
namespace Go.Proofs.YthokgnonmcgkcaaDoor.M
open Go Go.RowKit Go.Proofs.YthokgnonmcgkcaaDoor.E
set_option linter.unusedVariables false
set_option linter.unusedSimpArgs false
noncomputable def cmp_isNaN_string (a0 : (List UInt8)) : Option (Bool) :=
  some (!(a0 == a0))
noncomputable def slices_isNaN_string (a0 : (List UInt8)) : Option (Bool) :=
  some (!(a0 == a0))
noncomputable def cmp_Less_string (a0 : (List UInt8)) (a1 : (List UInt8)) : Option (Bool) :=
  (cmp_isNaN_string a0).bind fun y103 => (if y103 = true then ((cmp_isNaN_string a1).bind fun y106 => (if (!y106) = true then (some true) else (some (Op.bytesLess a0 a1)))) else (some (Op.bytesLess a0 a1)))
noncomputable def slices_BinarySearch_string_string_b1 (a0 : (List (List UInt8))) (a1 : (List UInt8)) (x520 : Int) : Option (Int × Bool) :=
  if (decide (x520 < (a0.length : Int))) = true then ((at_ a0 x520).bind fun x523 => (if (x523 == a1) = true then (some (x520, true)) else ((slices_isNaN_string x523).bind fun y528 => (if y528 = true then ((slices_isNaN_string a1).bind fun y531 => (some (x520, y531))) else (some (x520, false)))))) else (some (x520, false))
noncomputable def slices_BinarySearch_string_string_x1_0 (a0 : (List (List UInt8))) (a1 : (List UInt8)) (x625 : Int) : Option (Int × Bool) :=
  slices_BinarySearch_string_string_b1 a0 a1 x625
noncomputable def slices_BinarySearch_string_string_b2 (x649 : Int) (x650 : Int) : Option ((Int × Int) ⊕ ((Int))) :=
  some (.inl (x649, x650))
noncomputable def slices_BinarySearch_string_string_l1 (a0 : (List (List UInt8))) (a1 : (List UInt8)) (x578 : Int) (x579 : Int) : Option ((Int × Int) ⊕ ((Int))) :=
  if (decide (x578 < x579)) = true then (ltt (IntKind.i64.wrap (x578 + x579)) fun x652 => (ltt (IntKind.u64.wrap x652) fun x654 => (ltt (ishr .u64 x654 1) fun x656 => (ltt (IntKind.i64.wrap x656) fun x658 => ((at_ a0 x658).bind fun x661 => ((cmp_Less_string x661 a1).bind fun y664 => (if y664 = true then (ltt (IntKind.i64.wrap (x658 + 1)) fun x667 => (slices_BinarySearch_string_string_b2 x667 x579)) else (slices_BinarySearch_string_string_b2 x578 x658)))))))) else (some (.inr (x578)))
noncomputable def slices_BinarySearch_string_string (a0 : (List (List UInt8))) (a1 : (List UInt8)) : Option (Int × Bool) :=
  (loop (fun s => slices_BinarySearch_string_string_l1 a0 a1 s.1 s.2) (0, (a0.length : Int))).bind fun t => slices_BinarySearch_string_string_x1_0 a0 a1 t
noncomputable def column_Texts_b2 (l336 : (List Int)) (l606 : (List Int)) : Option ((List Int)) :=
  (column_Ints l606).bind fun y611 => (chk (l336.length + y611.length ≤ 140737488355328 / 1) (some (l336 ++ y611)))
noncomputable def column_Texts_x1_2 (l336 : (List Int)) (l681 : (List Int)) : Option ((List Int)) :=
  column_Texts_b2 l336 l681
noncomputable def column_Texts_l1 (a0 : (List (List UInt8))) (y109 : (List (List UInt8))) (l652 : (List Int)) (x656 : Int) : Option (((List Int) × Int) ⊕ (((List Int)))) :=
  if (decide (x656 < (a0.length : Int))) = true then ((at_ a0 x656).bind fun x692 => ((slices_BinarySearch_string_string y109 x692).bind fun y696 => (chk (l652.length + [y696.1].length ≤ 140737488355328 / 8) (ltt (IntKind.i64.wrap (x656 + 1)) fun x703 => (some (.inl (l652 ++ [y696.1], x703))))))) else (some (.inr (l652)))
noncomputable def column_Texts_b1 (a0 : (List (List UInt8))) (y109 : (List (List UInt8))) (l336 : (List Int)) : Option ((List Int)) :=
  (loop (fun s => column_Texts_l1 a0 y109 s.1 s.2) ([], 0)).bind fun t => column_Texts_x1_2 l336 t
noncomputable def column_Texts_x2_0 (a0 : (List (List UInt8))) (y109 : (List (List UInt8))) (l752 : (List Int)) : Option ((List Int)) :=
  column_Texts_b1 a0 y109 l752
noncomputable def column_Texts_l2 (y109 : (List (List UInt8))) (l726 : (List Int)) (x730 : Int) : Option (((List Int) × Int) ⊕ (((List Int)))) :=
  if (decide (x730 < (y109.length : Int))) = true then ((at_ y109 x730).bind fun x763 => ((column_Text l726 x763).bind fun y766 => (ltt (IntKind.i64.wrap (x730 + 1)) fun x771 => (some (.inl (y766, x771)))))) else (some (.inr (l726)))
noncomputable def column_Texts (a0 : (List (List UInt8))) : Option ((List Int)) :=
  (slices_Sorted_string a0).bind fun y104 => ((slices_Compact_string y104).bind fun y109 => (ltt (IntKind.u64.wrap (y109.length : Int)) fun x115 => ((column_Uint [] x115).bind fun y117 => ((loop (fun s => column_Texts_l2 y109 s.1 s.2) (y117, 0)).bind fun t => column_Texts_x2_0 a0 y109 t))))
end Go.Proofs.YthokgnonmcgkcaaDoor.M
namespace Go.Proofs.YthokgnonmcgkcaaDoor.M
open Go Go.RowKit Go.Proofs.YthokgnonmcgkcaaDoor.E
set_option linter.unusedVariables false
set_option linter.unusedSimpArgs false
set_option maxRecDepth 100000 in
set_option maxHeartbeats 4000000 in
theorem F_cmp_isNaN_string {r : World} {L : List HP} {w : World} (a0 : (List UInt8)) {y : (Bool)} (hF : cmp_isNaN_string a0 = some y) (hS : SH r (L) w) :
    Ret Tryd.prog 90 #[str a0] w fun v w' => v = .bool y ∧ SH r (L) w' := by
  refine enter Tryd.func90 rfl Tryd.ntmps90 [(0, str a0)] rfl (by simp) ?_
  intro ac hA Qf hQ hQn
  unfold cmp_isNaN_string at hF
  refine wp_seq_k fun K101 hK101 => ?_
  refine wp_reg ?_
  refine x_assign hA (fun ac hA => ?_) rfl rfl rfl rfl rfl
  refine wpList_nil ?_
  refine hK101 _ _ ?_
  refine wp_seq_k fun K102 hK102 => ?_
  refine wp_reg ?_
  refine x_move hA (fun ac hA => ?_) rfl rfl rfl rfl rfl
  refine x_move hA (fun ac hA => ?_) rfl rfl rfl rfl rfl
  refine x_val hA (r_neS rfl (hA.ev rfl) (hA.ev rfl)) (fun ac hA => ?_) rfl rfl rfl
  refine x_assign hA (fun ac hA => ?_) rfl rfl rfl rfl rfl
  refine wpList_nil ?_
  refine hK102 _ _ ?_
  refine wp_ret ?_
  cases hF
  refine hQ _ _ ?_
  refine lv Tryd.results90 hA rfl ?_
  exact ⟨rfl, hS⟩
set_option maxRecDepth 100000 in
set_option maxHeartbeats 4000000 in
theorem F_slices_isNaN_string {r : World} {L : List HP} {w : World} (a0 : (List UInt8)) {y : (Bool)} (hF : slices_isNaN_string a0 = some y) (hS : SH r (L) w) :
    Ret Tryd.prog 81 #[str a0] w fun v w' => v = .bool y ∧ SH r (L) w' := by
  refine enter Tryd.func81 rfl Tryd.ntmps81 [(0, str a0)] rfl (by simp) ?_
  intro ac hA Qf hQ hQn
  unfold slices_isNaN_string at hF
  refine wp_seq_k fun K101 hK101 => ?_
  refine wp_reg ?_
  refine x_assign hA (fun ac hA => ?_) rfl rfl rfl rfl rfl
  refine wpList_nil ?_
  refine hK101 _ _ ?_
  refine wp_seq_k fun K102 hK102 => ?_
  refine wp_reg ?_
  refine x_move hA (fun ac hA => ?_) rfl rfl rfl rfl rfl
  refine x_move hA (fun ac hA => ?_) rfl rfl rfl rfl rfl
  refine x_val hA (r_neS rfl (hA.ev rfl) (hA.ev rfl)) (fun ac hA => ?_) rfl rfl rfl
  refine x_assign hA (fun ac hA => ?_) rfl rfl rfl rfl rfl
  refine wpList_nil ?_
  refine hK102 _ _ ?_
  refine wp_ret ?_
  cases hF
  refine hQ _ _ ?_
  refine lv Tryd.results81 hA rfl ?_
  exact ⟨rfl, hS⟩
set_option maxRecDepth 100000 in
set_option maxHeartbeats 4000000 in
theorem F_cmp_Less_string {r : World} {L : List HP} {w : World} (a0 : (List UInt8)) (a1 : (List UInt8)) {y : (Bool)} (hF : cmp_Less_string a0 a1 = some y) (hS : SH r (L) w) :
    Ret Tryd.prog 80 #[str a0, str a1] w fun v w' => v = .bool y ∧ SH r (L) w' := by
  refine enter Tryd.func80 rfl Tryd.ntmps80 [(0, str a0), (1, str a1)] rfl (by simp) ?_
  intro ac hA Qf hQ hQn
  unfold cmp_Less_string at hF
  refine wp_seq_k fun K101 hK101 => ?_
  refine wp_reg ?_
  refine x_assign hA (fun ac hA => ?_) rfl rfl rfl rfl rfl
  refine wpList_nil ?_
  refine hK101 _ _ ?_
  refine wp_seq_k fun K102 hK102 => ?_
  refine wp_reg ?_
  refine x_move hA (fun ac hA => ?_) rfl rfl rfl rfl rfl
  obtain ⟨y103, h104, hF⟩ := bnd hF
  refine x_call en90 hA (F_cmp_isNaN_string (L := L) a0 h104 hS) (fun v ac w hR hA => ?_) rfl rfl rfl rfl rfl
  obtain ⟨rfl, hS⟩ := hR
  refine x_move hA (fun ac hA => ?_) rfl rfl rfl rfl rfl
  refine bcase (b := y103) (fun hb105 => ?_) fun hb105 => ?_
  · replace hF := ift hb105 hF
    refine x_on hb105 hA ?_ rfl rfl rfl
    refine x_move hA (fun ac hA => ?_) rfl rfl rfl rfl rfl
    refine x_on hb105 hA ?_ rfl rfl rfl
    obtain ⟨y106, h107, hF⟩ := bnd hF
    refine x_call en90 hA (F_cmp_isNaN_string (L := L) a1 h107 hS) (fun v ac w hR hA => ?_) rfl rfl rfl rfl rfl
    obtain ⟨rfl, hS⟩ := hR
    refine x_on hb105 hA ?_ rfl rfl rfl
    refine x_val hA (r_not rfl (hA.ev rfl)) (fun ac hA => ?_) rfl rfl rfl
    refine x_pickt hb105 hA (fun ac hA => ?_) rfl rfl rfl rfl rfl rfl
    refine x_move hA (fun ac hA => ?_) rfl rfl rfl rfl rfl
    refine bcase (b := !y106) (fun hb108 => ?_) fun hb108 => ?_
    · replace hF := ift hb108 hF
      refine x_off hb108 hA (fun ac hA => ?_) rfl rfl rfl rfl rfl
      refine x_off hb108 hA (fun ac hA => ?_) rfl rfl rfl rfl rfl
      refine x_off hb108 hA (fun ac hA => ?_) rfl rfl rfl rfl rfl
      refine x_pickt hb108 hA (fun ac hA => ?_) rfl rfl rfl rfl rfl rfl
      refine x_assign hA (fun ac hA => ?_) rfl rfl rfl rfl rfl
      refine wpList_nil ?_
      refine hK102 _ _ ?_
      refine wp_ret ?_
      cases hF
      refine hQ _ _ ?_
      refine lv Tryd.results80 hA rfl ?_
      exact ⟨rfl, hS⟩
    replace hF := iff' hb108 hF
    refine x_on hb108 hA ?_ rfl rfl rfl
    refine x_move hA (fun ac hA => ?_) rfl rfl rfl rfl rfl
    refine x_on hb108 hA ?_ rfl rfl rfl
    refine x_move hA (fun ac hA => ?_) rfl rfl rfl rfl rfl
    refine x_on hb108 hA ?_ rfl rfl rfl
    refine x_val hA (r_ltS rfl (hA.ev rfl) (hA.ev rfl)) (fun ac hA => ?_) rfl rfl rfl
    refine x_pickf hb108 hA (fun ac hA => ?_) rfl rfl rfl rfl rfl rfl
    refine x_assign hA (fun ac hA => ?_) rfl rfl rfl rfl rfl
    refine wpList_nil ?_
    refine hK102 _ _ ?_
    refine wp_ret ?_
    cases hF
    refine hQ _ _ ?_
    refine lv Tryd.results80 hA rfl ?_
    exact ⟨rfl, hS⟩
  replace hF := iff' hb105 hF
  refine x_off hb105 hA (fun ac hA => ?_) rfl rfl rfl rfl rfl
  refine x_off hb105 hA (fun ac hA => ?_) rfl rfl rfl rfl rfl
  refine x_off hb105 hA (fun ac hA => ?_) rfl rfl rfl rfl rfl
  refine x_pickf hb105 hA (fun ac hA => ?_) rfl rfl rfl rfl rfl rfl
  refine x_move hA (fun ac hA => ?_) rfl rfl rfl rfl rfl
  refine x_on rfl hA ?_ rfl rfl rfl
  refine x_move hA (fun ac hA => ?_) rfl rfl rfl rfl rfl
  refine x_on rfl hA ?_ rfl rfl rfl
  refine x_move hA (fun ac hA => ?_) rfl rfl rfl rfl rfl
  refine x_on rfl hA ?_ rfl rfl rfl
  refine x_val hA (r_ltS rfl (hA.ev rfl) (hA.ev rfl)) (fun ac hA => ?_) rfl rfl rfl
  refine x_pickf rfl hA (fun ac hA => ?_) rfl rfl rfl rfl rfl rfl
  refine x_assign hA (fun ac hA => ?_) rfl rfl rfl rfl rfl
  refine wpList_nil ?_
  refine hK102 _ _ ?_
  refine wp_ret ?_
  cases hF
  refine hQ _ _ ?_
  refine lv Tryd.results80 hA rfl ?_
  exact ⟨rfl, hS⟩
set_option maxRecDepth 100000 in
set_option maxHeartbeats 4000000 in
theorem F_slices_BinarySearch_string_string {r : World} {L : List HP} {w : World} (a0 : (List (List UInt8))) (a1 : (List UInt8)) (A0 : Option Addr) (n0 : Nat) (c0 : Nat) {y : (Int × Bool)} (hF : slices_BinarySearch_string_string a0 a1 = some y) (ha0 : RdL L kS A0 n0 c0 a0) (hS : SH r (L) w) :
    Ret Tryd.prog 62 #[.slice A0 n0 c0, str a1] w fun v w' => v = .tuple #[(.int .i64 y.1), (.bool y.2)] ∧ SH r (L) w' := by
  refine enter Tryd.func62 rfl Tryd.ntmps62 [(0, .slice A0 n0 c0), (1, str a1)] rfl (by simp) ?_
  intro ac hA Qf hQ hQn
  unfold slices_BinarySearch_string_string at hF
  refine wp_seq_k fun K101 hK101 => ?_
  refine wp_reg ?_
  refine x_assign hA (fun ac hA => ?_) rfl rfl rfl rfl rfl
  refine x_assign hA (fun ac hA => ?_) rfl rfl rfl rfl rfl
  refine wpList_nil ?_
  refine hK101 _ _ ?_
  refine wp_seq_k fun K102 hK102 => ?_
  refine wp_reg ?_
  refine x_move hA (fun ac hA => ?_) rfl rfl rfl rfl rfl
  refine x_len Tryd.underlying50 (hS.rdl 0 ha0 rfl).2.1 hA (fun ac hA => ?_) rfl rfl rfl rfl rfl
  refine x_assign hA (fun ac hA => ?_) rfl rfl rfl rfl rfl
  refine wpList_nil ?_
  refine hK102 _ _ ?_
  refine wp_seq_k fun K103 hK103 => ?_
  refine wp_reg ?_
  refine x_move hA (fun ac hA => ?_) rfl rfl rfl rfl rfl
  refine x_assign hA (fun ac hA => ?_) rfl rfl rfl rfl rfl
  refine x_assign hA (fun ac hA => ?_) rfl rfl rfl rfl rfl
  refine wpList_nil ?_
  refine hK103 _ _ ?_
  refine wp_seq_k fun K104 hK104 => ?_
  refine wp_block_k fun Kx382 hKx382 => ?_
  have hb1 : ∀ (x520 : Int), slices_BinarySearch_string_string_b1 a0 a1 x520 = some y → ∀ (ac : Act) (w : World), FR 54 [] ac [(0, .slice A0 n0 c0), (1, str a1), (6, .int .i64 (a0.length : Int)), (7, .int .i64 x520)] → SH r (L) w → Kx382 ac w := by
    intro x520 hF ac w hA hS
    unfold slices_BinarySearch_string_string_b1 at hF
    refine hKx382 _ _ ?_
    refine hK104 _ _ ?_
    refine wp_seq_k fun K521 hK521 => ?_
    refine wp_reg ?_
    refine x_move hA (fun ac hA => ?_) rfl rfl rfl rfl rfl
    refine x_move hA (fun ac hA => ?_) rfl rfl rfl rfl rfl
    refine x_move hA (fun ac hA => ?_) rfl rfl rfl rfl rfl
    refine x_val hA (r_ltI rfl (hA.ev rfl) (hA.ev rfl)) (fun ac hA => ?_) rfl rfl rfl
    refine x_move hA (fun ac hA => ?_) rfl rfl rfl rfl rfl
    refine bcase (b := decide (x520 < (a0.length : Int))) (fun hb522 => ?_) fun hb522 => ?_
    · replace hF := ift hb522 hF
      refine x_on hb522 hA ?_ rfl rfl rfl
      refine x_move hA (fun ac hA => ?_) rfl rfl rfl rfl rfl
      refine x_on hb522 hA ?_ rfl rfl rfl
      refine x_move hA (fun ac hA => ?_) rfl rfl rfl rfl rfl
      refine x_on hb522 hA ?_ rfl rfl rfl
      obtain ⟨x523, h524, hF⟩ := bnd hF
      refine x_ia Tryd.underlying50 sz9 (hS.rdl 0 ha0 rfl) h524 hA (fun ac hA => ?_) rfl rfl rfl rfl rfl rfl
      refine x_on hb522 hA ?_ rfl rfl rfl
      obtain ⟨cs, hV, hc525⟩ := el (hS.rdl 0 ha0 rfl) h524
      obtain rfl := hV
      refine x_ld Tryd.underlying9 (hc525 0 _ rfl) hA (fun ac hA => ?_) rfl rfl rfl rfl rfl rfl
      refine x_on hb522 hA ?_ rfl rfl rfl
      refine x_move hA (fun ac hA => ?_) rfl rfl rfl rfl rfl
      refine x_on hb522 hA ?_ rfl rfl rfl
      refine x_val hA (r_eqS rfl (hA.ev rfl) (hA.ev rfl)) (fun ac hA => ?_) rfl rfl rfl
      refine x_on hb522 hA ?_ rfl rfl rfl
      refine x_move hA (fun ac hA => ?_) rfl rfl rfl rfl rfl
      refine bcase (b := x523 == a1) (fun hb526 => ?_) fun hb526 => ?_
      · replace hF := ift hb526 hF
        refine x_off hb526 hA (fun ac hA => ?_) rfl rfl rfl rfl rfl
        refine x_off hb526 hA (fun ac hA => ?_) rfl rfl rfl rfl rfl
        refine x_off hb526 hA (fun ac hA => ?_) rfl rfl rfl rfl rfl
        refine x_off hb526 hA (fun ac hA => ?_) rfl rfl rfl rfl rfl
        refine x_off hb526 hA (fun ac hA => ?_) rfl rfl rfl rfl rfl
        refine x_off hb526 hA (fun ac hA => ?_) rfl rfl rfl rfl rfl
        refine x_offU hA (fun ac hA => ?_) rfl rfl rfl rfl rfl
        refine x_offU hA (fun ac hA => ?_) rfl rfl rfl rfl rfl
        refine x_off hb526 hA (fun ac hA => ?_) rfl rfl rfl rfl rfl
        refine x_on hb522 hA ?_ rfl rfl rfl
        refine x_pickt hb526 hA (fun ac hA => ?_) rfl rfl rfl rfl rfl rfl
        refine x_pickt hb522 hA (fun ac hA => ?_) rfl rfl rfl rfl rfl rfl
        refine x_assign hA (fun ac hA => ?_) rfl rfl rfl rfl rfl
        refine x_assign hA (fun ac hA => ?_) rfl rfl rfl rfl rfl
        refine wpList_nil ?_
        refine hK521 _ _ ?_
        refine wp_ret ?_
        cases hF
        refine hQ _ _ ?_
        refine lv2 Tryd.results62 hA rfl rfl ?_
        exact ⟨rfl, hS⟩
      replace hF := iff' hb526 hF
      refine x_on hb526 hA ?_ rfl rfl rfl
      refine x_move hA (fun ac hA => ?_) rfl rfl rfl rfl rfl
      refine x_on hb526 hA ?_ rfl rfl rfl
      refine x_move hA (fun ac hA => ?_) rfl rfl rfl rfl rfl
      refine x_on hb526 hA ?_ rfl rfl rfl
      refine x_ia Tryd.underlying50 sz9 (hS.rdl 0 ha0 rfl) h524 hA (fun ac hA => ?_) rfl rfl rfl rfl rfl rfl
      refine x_on hb526 hA ?_ rfl rfl rfl
      obtain ⟨cs, hV, hc527⟩ := el (hS.rdl 0 ha0 rfl) h524
      obtain rfl := hV
      refine x_ld Tryd.underlying9 (hc527 0 _ rfl) hA (fun ac hA => ?_) rfl rfl rfl rfl rfl rfl
      refine x_on hb526 hA ?_ rfl rfl rfl
      obtain ⟨y528, h529, hF⟩ := bnd hF
      refine x_call en81 hA (F_slices_isNaN_string (L := L) x523 h529 hS) (fun v ac w hR hA => ?_) rfl rfl rfl rfl rfl
      obtain ⟨rfl, hS⟩ := hR
      refine x_on hb526 hA ?_ rfl rfl rfl
      refine x_move hA (fun ac hA => ?_) rfl rfl rfl rfl rfl
      refine bcase (b := y528) (fun hb530 => ?_) fun hb530 => ?_
      · replace hF := ift hb530 hF
        refine x_on hb530 hA ?_ rfl rfl rfl
        refine x_move hA (fun ac hA => ?_) rfl rfl rfl rfl rfl
        refine x_on hb530 hA ?_ rfl rfl rfl
        obtain ⟨y531, h532, hF⟩ := bnd hF
        refine x_call en81 hA (F_slices_isNaN_string (L := L) a1 h532 hS) (fun v ac w hR hA => ?_) rfl rfl rfl rfl rfl
        obtain ⟨rfl, hS⟩ := hR
        refine x_on hb526 hA ?_ rfl rfl rfl
        refine x_pickt hb530 hA (fun ac hA => ?_) rfl rfl rfl rfl rfl rfl
        refine x_on hb522 hA ?_ rfl rfl rfl
        refine x_pickf hb526 hA (fun ac hA => ?_) rfl rfl rfl rfl rfl rfl
        refine x_pickt hb522 hA (fun ac hA => ?_) rfl rfl rfl rfl rfl rfl
        refine x_assign hA (fun ac hA => ?_) rfl rfl rfl rfl rfl
        refine x_assign hA (fun ac hA => ?_) rfl rfl rfl rfl rfl
        refine wpList_nil ?_
        refine hK521 _ _ ?_
        refine wp_ret ?_
        cases hF
        refine hQ _ _ ?_
        refine lv2 Tryd.results62 hA rfl rfl ?_
        exact ⟨rfl, hS⟩
      replace hF := iff' hb530 hF
      refine x_off hb530 hA (fun ac hA => ?_) rfl rfl rfl rfl rfl
      refine x_off hb530 hA (fun ac hA => ?_) rfl rfl rfl rfl rfl
      refine x_on hb526 hA ?_ rfl rfl rfl
      refine x_pickf hb530 hA (fun ac hA => ?_) rfl rfl rfl rfl rfl rfl
      refine x_on hb522 hA ?_ rfl rfl rfl
      refine x_pickf hb526 hA (fun ac hA => ?_) rfl rfl rfl rfl rfl rfl
      refine x_pickt hb522 hA (fun ac hA => ?_) rfl rfl rfl rfl rfl rfl
      refine x_assign hA (fun ac hA => ?_) rfl rfl rfl rfl rfl
      refine x_assign hA (fun ac hA => ?_) rfl rfl rfl rfl rfl
      refine wpList_nil ?_
      refine hK521 _ _ ?_
      refine wp_ret ?_
      cases hF
      refine hQ _ _ ?_
      refine lv2 Tryd.results62 hA rfl rfl ?_
      exact ⟨rfl, hS⟩
    replace hF := iff' hb522 hF
    refine x_off hb522 hA (fun ac hA => ?_) rfl rfl rfl rfl rfl
    refine x_off hb522 hA (fun ac hA => ?_) rfl rfl rfl rfl rfl
    refine x_off hb522 hA (fun ac hA => ?_) rfl rfl rfl rfl rfl
    refine x_off hb522 hA (fun ac hA => ?_) rfl rfl rfl rfl rfl
    refine x_off hb522 hA (fun ac hA => ?_) rfl rfl rfl rfl rfl
    refine x_off hb522 hA (fun ac hA => ?_) rfl rfl rfl rfl rfl
    refine x_off hb522 hA (fun ac hA => ?_) rfl rfl rfl rfl rfl
    refine x_offU hA (fun ac hA => ?_) rfl rfl rfl rfl rfl
    refine x_offU hA (fun ac hA => ?_) rfl rfl rfl rfl rfl
    refine x_offU hA (fun ac hA => ?_) rfl rfl rfl rfl rfl
    refine x_offU hA (fun ac hA => ?_) rfl rfl rfl rfl rfl
    refine x_offU hA (fun ac hA => ?_) rfl rfl rfl rfl rfl
    refine x_offU hA (fun ac hA => ?_) rfl rfl rfl rfl rfl
    refine x_offU hA (fun ac hA => ?_) rfl rfl rfl rfl rfl
    refine x_offU hA (fun ac hA => ?_) rfl rfl rfl rfl rfl
    refine x_offU hA (fun ac hA => ?_) rfl rfl rfl rfl rfl
    refine x_off hb522 hA (fun ac hA => ?_) rfl rfl rfl rfl rfl
    refine x_pickf hb522 hA (fun ac hA => ?_) rfl rfl rfl rfl rfl rfl
    refine x_assign hA (fun ac hA => ?_) rfl rfl rfl rfl rfl
    refine x_assign hA (fun ac hA => ?_) rfl rfl rfl rfl rfl
    refine wpList_nil ?_
    refine hK521 _ _ ?_
    refine wp_ret ?_
    cases hF
    refine hQ _ _ ?_
    refine lv2 Tryd.results62 hA rfl rfl ?_
    exact ⟨rfl, hS⟩
  obtain ⟨t625, hl625, hF⟩ := bnd hF
  have hx625_0 : ∀ (x625 : Int), (x625) = t625 → ∀ (ac : Act) (w : World), FR 54 [] ac [(0, .slice A0 n0 c0), (1, str a1), (6, .int .i64 (a0.length : Int)), (7, .int .i64 x625)] → SH r (L) w → Kx382 ac w := by
    intro x625 ht ac w hA hS
    subst ht
    replace hF : slices_BinarySearch_string_string_x1_0 a0 a1 x625 = some y := hF
    unfold slices_BinarySearch_string_string_x1_0 at hF
    exact hb1 x625 hF ac w (hA.sub _ rfl) hS
  refine wp_loop_fn hl625 (fun s ac w => FR 54 [] ac [(0, .slice A0 n0 c0), (1, str a1), (6, .int .i64 (a0.length : Int)), (7, .int .i64 s.1), (8, .int .i64 s.2)] ∧ SH r (L) w) ⟨hA.sub _ rfl, hS⟩ ?_
  intro N625 s625 o625 hF N625_ T625_ ac w hLab
  obtain ⟨x578, x579⟩ := s625
  replace hF : slices_BinarySearch_string_string_l1 a0 a1 x578 x579 = some o625 := hF
  unfold slices_BinarySearch_string_string_l1 at hF
  try dsimp only at hLab
  obtain ⟨hA, hS⟩ := hLab
  refine wp_seq_k fun K627 hK627 => ?_
  refine wp_seq_k fun K628 hK628 => ?_
  refine wp_reg ?_
  refine x_move hA (fun ac hA => ?_) rfl rfl rfl rfl rfl
  refine x_move hA (fun ac hA => ?_) rfl rfl rfl rfl rfl
  refine x_val hA (r_ltI rfl (hA.ev rfl) (hA.ev rfl)) (fun ac hA => ?_) rfl rfl rfl
  refine wpList_nil ?_
  refine hK628 _ _ ?_
  refine c_if hA rfl (fun hb629 => ?_) fun hb629 => ?_
  · replace hF := ift hb629 hF
    refine wp_skip ?_
    refine hK627 _ _ ?_
    refine wp_block_k fun Kx630 hKx630 => ?_
    have hb2 : ∀ (x649 : Int) (x650 : Int), slices_BinarySearch_string_string_b2 x649 x650 = some o625 → ∀ (ac : Act) (w : World), FR 54 [] ac [(0, .slice A0 n0 c0), (1, str a1), (6, .int .i64 (a0.length : Int)), (7, .int .i64 x649), (8, .int .i64 x650)] → SH r (L) w → Kx630 ac w := by
      intro x649 x650 hF ac w hA hS
      unfold slices_BinarySearch_string_string_b2 at hF
      refine hKx630 _ _ ?_
      cases hF
      exact ⟨_, N625_ _ rfl, hA.sub _ rfl, hS⟩
    refine wp_seq_k fun K651 hK651 => ?_
    refine wp_reg ?_
    refine x_move hA (fun ac hA => ?_) rfl rfl rfl rfl rfl
    refine x_move hA (fun ac hA => ?_) rfl rfl rfl rfl rfl
    obtain ⟨x652, h653, hF⟩ := ltt_ hF
    refine x_val (v := .int .i64 x652) hA (rv_i h653 (r_add rfl (hA.ev rfl) (hA.ev rfl))) (fun ac hA => ?_) rfl rfl rfl
    obtain ⟨x654, h655, hF⟩ := ltt_ hF
    refine x_val (v := .int .u64 x654) hA (rv_i h655 (r_convI Tryd.underlying3 Tryd.underlying108 rfl (hA.ev rfl))) (fun ac hA => ?_) rfl rfl rfl
    obtain ⟨x656, h657, hF⟩ := ltt_ hF
    refine x_val (v := .int .u64 x656) hA (rv_i h657 (r_shr rfl (hA.ev rfl) (hA.ev rfl) (by decide))) (fun ac hA => ?_) rfl rfl rfl
    obtain ⟨x658, h659, hF⟩ := ltt_ hF
    refine x_val (v := .int .i64 x658) hA (rv_i h659 (r_convI Tryd.underlying108 Tryd.underlying3 rfl (hA.ev rfl))) (fun ac hA => ?_) rfl rfl rfl
    refine x_assign hA (fun ac hA => ?_) rfl rfl rfl rfl rfl
    refine wpList_nil ?_
    refine hK651 _ _ ?_
    refine wp_seq_k fun K660 hK660 => ?_
    refine wp_reg ?_
    refine x_move hA (fun ac hA => ?_) rfl rfl rfl rfl rfl
    refine x_move hA (fun ac hA => ?_) rfl rfl rfl rfl rfl
    obtain ⟨x661, h662, hF⟩ := bnd hF
    refine x_ia Tryd.underlying50 sz9 (hS.rdl 0 ha0 rfl) h662 hA (fun ac hA => ?_) rfl rfl rfl rfl rfl rfl
    obtain ⟨cs, hV, hc663⟩ := el (hS.rdl 0 ha0 rfl) h662
    obtain rfl := hV
    refine x_ld Tryd.underlying9 (hc663 0 _ rfl) hA (fun ac hA => ?_) rfl rfl rfl rfl rfl rfl
    refine x_move hA (fun ac hA => ?_) rfl rfl rfl rfl rfl
    obtain ⟨y664, h665, hF⟩ := bnd hF
    refine x_call en80 hA (F_cmp_Less_string (L := L) x661 a1 h665 hS) (fun v ac w hR hA => ?_) rfl rfl rfl rfl rfl
    obtain ⟨rfl, hS⟩ := hR
    refine wpList_nil ?_
    refine hK660 _ _ ?_
    refine c_if hA rfl (fun hb666 => ?_) fun hb666 => ?_
    · replace hF := ift hb666 hF
      refine wp_reg ?_
      refine x_move hA (fun ac hA => ?_) rfl rfl rfl rfl rfl
      obtain ⟨x667, h668, hF⟩ := ltt_ hF
      refine x_val (v := .int .i64 x667) hA (rv_i h668 (r_add rfl (hA.ev rfl) (hA.ev rfl))) (fun ac hA => ?_) rfl rfl rfl
      refine x_assign hA (fun ac hA => ?_) rfl rfl rfl rfl rfl
      refine wpList_nil ?_
      exact hb2 x667 x579 hF ac w (hA.sub _ rfl) hS
    replace hF := iff' hb666 hF
    refine wp_reg ?_
    refine x_move hA (fun ac hA => ?_) rfl rfl rfl rfl rfl
    refine x_assign hA (fun ac hA => ?_) rfl rfl rfl rfl rfl
    refine wpList_nil ?_
    exact hb2 x578 x658 hF ac w (hA.sub _ rfl) hS
  replace hF := iff' hb629 hF
  refine wp_exit ?_
  cases hF
  exact hx625_0 x578 (T625_ _ rfl) ac w (hA.sub _ rfl) hS
set_option maxRecDepth 100000 in
set_option maxHeartbeats 4000000 in
theorem F_column_Texts {r : World} {L : List HP} {w : World} (a0 : (List (List UInt8))) (A0 : Option Addr) (n0 : Nat) (c0 : Nat) {y : ((List Int))} (hF : column_Texts a0 = some y) (ha0 : RdL L kS A0 n0 c0 a0) (hS : SH r (L) w) :
    Ret Tryd.prog 29 #[.slice A0 n0 c0] w fun v w' => ∃ (B0 : Option Addr) (m0 : Nat) (d0 : Nat), v = .slice B0 m0 d0 ∧ SH r (own (kI .u8) 5 B0 m0 d0 y :: L) w' := by
  refine enter Tryd.func29 rfl Tryd.ntmps29 [(0, .slice A0 n0 c0)] rfl (by simp) ?_
  intro ac hA Qf hQ hQn
  unfold column_Texts at hF
  refine wp_seq_k fun K101 hK101 => ?_
  refine wp_reg ?_
  refine x_assign hA (fun ac hA => ?_) rfl rfl rfl rfl rfl
  refine wpList_nil ?_
  refine hK101 _ _ ?_
  refine wp_seq_k fun K102 hK102 => ?_
  refine wp_reg ?_
  refine x_move hA (fun ac hA => ?_) rfl rfl rfl rfl rfl
  refine x_call en60 hA (F_slices_Values (L := L) (A := A0) (n := n0) (c := c0) hS) (fun v ac w hR hA => ?_) rfl rfl rfl rfl rfl
  obtain ⟨g103, rfl, hS⟩ := hR
  obtain ⟨y104, h105, hF⟩ := bnd hF
  refine x_call en59 hA (F_slices_Sorted (L := L) a0 h105 (RdL.sfx 0 rfl ha0) hS) (fun v ac w hR hA => ?_) rfl rfl rfl rfl rfl
  obtain ⟨A106, n107, c108, rfl, hS⟩ := hR
  obtain ⟨y109, h110, hF⟩ := bnd hF
  refine x_call en58 hA (F_slices_Compact (L := L) y104 h110 hS) (fun v ac w hR hA => ?_) rfl rfl rfl rfl rfl
  obtain ⟨A111, n112, c113, rfl, hS⟩ := hR
  refine x_assign hA (fun ac hA => ?_) rfl rfl rfl rfl rfl
  refine wpList_nil ?_
  refine hK102 _ _ ?_
  refine wp_seq_k fun K114 hK114 => ?_
  refine wp_reg ?_
  refine x_move hA (fun ac hA => ?_) rfl rfl rfl rfl rfl
  refine x_len Tryd.underlying50 (hS.rd 0 rfl).2.1 hA (fun ac hA => ?_) rfl rfl rfl rfl rfl
  obtain ⟨x115, h116, hF⟩ := ltt_ hF
  refine x_val (v := .int .u64 x115) hA (rv_i h116 (r_convI Tryd.underlying3 Tryd.underlying36 rfl (hA.ev rfl))) (fun ac hA => ?_) rfl rfl rfl
  replace hS := SH.nil_own (d := (kI .u8)) (e := 5) hS
  obtain ⟨y117, h118, hF⟩ := bnd hF
  refine x_call en61 hA (F_column_Uint (L := own kS 9 A111 n112 c113 y109 :: L) [] x115 none 0 0 h118 hS) (fun v ac w hR hA => ?_) rfl rfl rfl rfl rfl
  obtain ⟨B119, m120, d121, rfl, hS⟩ := hR
  refine x_assign hA (fun ac hA => ?_) rfl rfl rfl rfl rfl
  refine wpList_nil ?_
  refine hK114 _ _ ?_
  refine wp_seq_k fun K122 hK122 => ?_
  refine wp_seq_k fun K266 hK266 => ?_
  refine wp_reg ?_
  refine x_move hA (fun ac hA => ?_) rfl rfl rfl rfl rfl
  refine x_len Tryd.underlying50 (hS.rd 1 rfl).2.1 hA (fun ac hA => ?_) rfl rfl rfl rfl rfl
  refine x_move hA (fun ac hA => ?_) rfl rfl rfl rfl rfl
  refine wpList_nil ?_
  refine hK266 _ _ ?_
  refine wp_block_k fun Kx267 hKx267 => ?_
  have hb1 : ∀ (l336 : (List Int)), column_Texts_b1 a0 y109 l336 = some y → ∀ (A337 : Option Addr) (n338 : Nat) (c339 : Nat) (ac : Act) (w : World), FR 51 [] ac [(0, .slice A0 n0 c0), (3, .slice A111 n112 c113), (4, .slice A337 n338 c339)] → SH r (own kS 9 A111 n112 c113 y109 :: own (kI .u8) 5 A337 n338 c339 l336 :: L) w → Kx267 ac w := by
    intro l336 hF A337 n338 c339 ac w hA hS
    unfold column_Texts_b1 at hF
    refine hKx267 _ _ ?_
    refine hK122 _ _ ?_
    refine wp_seq_k fun K340 hK340 => ?_
    refine wp_reg ?_
    refine x_assign hA (fun ac hA => ?_) rfl rfl rfl rfl rfl
    refine wpList_nil ?_
    refine hK340 _ _ ?_
    refine wp_seq_k fun K341 hK341 => ?_
    refine wp_seq_k fun K519 hK519 => ?_
    refine wp_reg ?_
    refine x_move hA (fun ac hA => ?_) rfl rfl rfl rfl rfl
    refine x_len Tryd.underlying50 (hS.rdl 2 ha0 rfl).2.1 hA (fun ac hA => ?_) rfl rfl rfl rfl rfl
    refine x_move hA (fun ac hA => ?_) rfl rfl rfl rfl rfl
    refine wpList_nil ?_
    refine hK519 _ _ ?_
    refine wp_block_k fun Kx520 hKx520 => ?_
    have hb2 : ∀ (l606 : (List Int)), column_Texts_b2 l336 l606 = some y → ∀ (A607 : Option Addr) (n608 : Nat) (c609 : Nat) (ac : Act) (w : World), FR 51 [] ac [(4, .slice A337 n338 c339), (7, .slice A607 n608 c609)] → SH r (own (kI .u8) 5 A337 n338 c339 l336 :: own (kI .i64) 2 A607 n608 c609 l606 :: L) w → Kx520 ac w := by
      intro l606 hF A607 n608 c609 ac w hA hS
      unfold column_Texts_b2 at hF
      refine hKx520 _ _ ?_
      refine hK341 _ _ ?_
      refine wp_seq_k fun K610 hK610 => ?_
      refine wp_reg ?_
      refine x_move hA (fun ac hA => ?_) rfl rfl rfl rfl rfl
      refine x_move hA (fun ac hA => ?_) rfl rfl rfl rfl rfl
      obtain ⟨y611, h612, hF⟩ := bnd hF
      refine x_call en28 hA (F_column_Ints (L := own (kI .u8) 5 A337 n338 c339 l336 :: own (kI .i64) 2 A607 n608 c609 l606 :: L) l606 A607 n608 c609 h612 (RdL.own 1 rfl (hS.dropN 0)) hS) (fun v ac w hR hA => ?_) rfl rfl rfl rfl rfl
      obtain ⟨B613, m614, d615, rfl, hS⟩ := hR
      obtain ⟨h616, hF⟩ := chk_some hF
      have hr := hS.rd 0 rfl
      refine x_app 1 inf5 Tryd.underlying22 hA hS hr.1 hr.2.1 h616 rfl (fun A617 n618 c619 ac w hS hA => ?_) rfl rfl rfl rfl rfl rfl rfl rfl rfl
      refine x_assign hA (fun ac hA => ?_) rfl rfl rfl rfl rfl
      refine wpList_nil ?_
      refine hK610 _ _ ?_
      refine wp_ret ?_
      replace hS := hS.drop 1
      replace hS := hS.drop 1
      cases hF
      refine hQ _ _ ?_
      refine lv Tryd.results29 hA rfl ?_
      exact ⟨A617, n618, c619, rfl, hS⟩
    obtain ⟨t684, hl684, hF⟩ := bnd hF
    have hx684_2 : ∀ (l681 : (List Int)), (l681) = t684 → ∀ (A682 : Option Addr) (n683 : Nat) (c684 : Nat) (ac : Act) (w : World), FR 51 [] ac [(4, .slice A337 n338 c339), (7, .slice A682 n683 c684)] → SH r (own (kI .u8) 5 A337 n338 c339 l336 :: own (kI .i64) 2 A682 n683 c684 l681 :: L) w → Kx520 ac w := by
      intro l681 ht A682 n683 c684 ac w hA hS
      subst ht
      replace hF : column_Texts_x1_2 l336 l681 = some y := hF
      unfold column_Texts_x1_2 at hF
      exact hb2 l681 hF A682 n683 c684 ac w (hA.sub _ rfl) hS
    replace hS := SH.nil_own (d := (kI .i64)) (e := 2) hS
    replace hS := hS.pk 2
    replace hS := hS.pk 2
    refine wp_loop_fn hl684 (fun s ac w => ∃ (A653 : Option Addr) (n654 : Nat) (c655 : Nat), FR 51 [] ac [(3, .slice A111 n112 c113), (4, .slice A337 n338 c339), (7, .slice A653 n654 c655), (30, .slice A0 n0 c0), (31, .int .i64 (a0.length : Int)), (32, .int .i64 s.2)] ∧ SH r (own kS 9 A111 n112 c113 y109 :: own (kI .u8) 5 A337 n338 c339 l336 :: own (kI .i64) 2 A653 n654 c655 s.1 :: L) w) ⟨none, 0, 0, hA.sub _ rfl, hS⟩ ?_
    intro N684 s684 o684 hF N684_ T684_ ac w hLab
    obtain ⟨l652, x656⟩ := s684
    replace hF : column_Texts_l1 a0 y109 l652 x656 = some o684 := hF
    unfold column_Texts_l1 at hF
    try dsimp only at hLab
    obtain ⟨A653, n654, c655, hA, hS⟩ := hLab
    refine wp_seq_k fun K686 hK686 => ?_
    refine wp_reg ?_
    refine x_val hA (r_ltI rfl (hA.ev rfl) (hA.ev rfl)) (fun ac hA => ?_) rfl rfl rfl
    refine wpList_nil ?_
    refine hK686 _ _ ?_
    refine wp_seq_k fun K687 hK687 => ?_
    refine c_if hA rfl (fun hb688 => ?_) fun hb688 => ?_
    · replace hF := ift hb688 hF
      refine wp_skip ?_
      refine hK687 _ _ ?_
      refine wp_seq_k fun K689 hK689 => ?_
      refine wp_block_k fun Kx690 hKx690 => ?_
      refine wp_seq_k fun K691 hK691 => ?_
      refine wp_reg ?_
      obtain ⟨x692, h693, hF⟩ := bnd hF
      refine x_ia Tryd.underlying50 sz9 (hS.rdl 3 ha0 rfl) h693 hA (fun ac hA => ?_) rfl rfl rfl rfl rfl rfl
      obtain ⟨cs, hV, hc694⟩ := el (hS.rdl 3 ha0 rfl) h693
      obtain rfl := hV
      refine x_ld Tryd.underlying9 (hc694 0 _ rfl) hA (fun ac hA => ?_) rfl rfl rfl rfl rfl rfl
      refine x_assign hA (fun ac hA => ?_) rfl rfl rfl rfl rfl
      refine wpList_nil ?_
      refine hK691 _ _ ?_
      refine wp_seq_k fun K695 hK695 => ?_
      refine wp_reg ?_
      refine x_move hA (fun ac hA => ?_) rfl rfl rfl rfl rfl
      refine x_move hA (fun ac hA => ?_) rfl rfl rfl rfl rfl
      obtain ⟨y696, h697, hF⟩ := bnd hF
      refine x_call en62 hA (F_slices_BinarySearch_string_string (L := own kS 9 A111 n112 c113 y109 :: own (kI .u8) 5 A337 n338 c339 l336 :: own (kI .i64) 2 A653 n654 c655 l652 :: L) y109 x692 A111 n112 c113 h697 (RdL.own 0 rfl (hS.dropN 0)) hS) (fun v ac w hR hA => ?_) rfl rfl rfl rfl rfl
      obtain ⟨rfl, hS⟩ := hR
      refine x_move hA (fun ac hA => ?_) rfl rfl rfl rfl rfl
      refine x_val hA (r_extract rfl (hA.ev rfl) rfl) (fun ac hA => ?_) rfl rfl rfl
      refine x_val hA (r_extract rfl (hA.ev rfl) rfl) (fun ac hA => ?_) rfl rfl rfl
      refine x_assign hA (fun ac hA => ?_) rfl rfl rfl rfl rfl
      refine x_assign hA (fun ac hA => ?_) rfl rfl rfl rfl rfl
      refine wpList_nil ?_
      refine hK695 _ _ ?_
      refine wp_reg ?_
      refine x_move hA (fun ac hA => ?_) rfl rfl rfl rfl rfl
      refine x_move hA (fun ac hA => ?_) rfl rfl rfl rfl rfl
      refine x_bsl (d := (kI .i64)) (e := 2) (ps := #[(0, .int .i64 y696.1)]) (cells := [.int .i64 y696.1]) (xs := [y696.1]) (fun w => by kernel_rfl) rfl ⟨[.int .i64 y696.1], _, rfl, rfl, rfl⟩ hA hS (fun g698 ac w hS hA => ?_) rfl rfl rfl rfl rfl rfl
      obtain ⟨h699, hF⟩ := chk_some hF
      have hr := hS.rd 0 rfl
      refine x_app 3 inf2 Tryd.underlying47 hA hS hr.1 hr.2.1 h699 rfl (fun A700 n701 c702 ac w hS hA => ?_) rfl rfl rfl rfl rfl rfl rfl rfl rfl
      refine x_assign hA (fun ac hA => ?_) rfl rfl rfl rfl rfl
      refine wpList_nil ?_
      refine hKx690 _ _ ?_
      refine hK689 _ _ ?_
      refine wp_reg ?_
      obtain ⟨x703, h704, hF⟩ := ltt_ hF
      refine x_val (v := .int .i64 x703) hA (rv_i h704 (r_add rfl (hA.ev rfl) (hA.ev rfl))) (fun ac hA => ?_) rfl rfl rfl
      refine x_move hA (fun ac hA => ?_) rfl rfl rfl rfl rfl
      refine wpList_nil ?_
      replace hS := hS.drop 1
      replace hS := hS.pk 2
      replace hS := hS.pk 2
      cases hF
      exact ⟨_, N684_ _ rfl, A700, n701, c702, hA.sub _ rfl, hS⟩
    replace hF := iff' hb688 hF
    refine wp_exit ?_
    replace hS := hS.drop 0
    cases hF
    exact hx684_2 l652 (T684_ _ rfl) A653 n654 c655 ac w (hA.sub _ rfl) hS
  obtain ⟨t755, hl755, hF⟩ := bnd hF
  have hx755_0 : ∀ (l752 : (List Int)), (l752) = t755 → ∀ (A753 : Option Addr) (n754 : Nat) (c755 : Nat) (ac : Act) (w : World), FR 51 [] ac [(0, .slice A0 n0 c0), (3, .slice A111 n112 c113), (4, .slice A753 n754 c755)] → SH r (own kS 9 A111 n112 c113 y109 :: own (kI .u8) 5 A753 n754 c755 l752 :: L) w → Kx267 ac w := by
    intro l752 ht A753 n754 c755 ac w hA hS
    subst ht
    replace hF : column_Texts_x2_0 a0 y109 l752 = some y := hF
    unfold column_Texts_x2_0 at hF
    exact hb1 l752 hF A753 n754 c755 ac w (hA.sub _ rfl) hS
  replace hS := hS.pk 1
  refine wp_loop_fn hl755 (fun s ac w => ∃ (A727 : Option Addr) (n728 : Nat) (c729 : Nat), FR 51 [] ac [(0, .slice A0 n0 c0), (3, .slice A111 n112 c113), (4, .slice A727 n728 c729), (20, .slice A111 n112 c113), (21, .int .i64 (y109.length : Int)), (22, .int .i64 s.2)] ∧ SH r (own kS 9 A111 n112 c113 y109 :: own (kI .u8) 5 A727 n728 c729 s.1 :: L) w) ⟨B119, m120, d121, hA.sub _ rfl, hS⟩ ?_
  intro N755 s755 o755 hF N755_ T755_ ac w hLab
  obtain ⟨l726, x730⟩ := s755
  replace hF : column_Texts_l2 y109 l726 x730 = some o755 := hF
  unfold column_Texts_l2 at hF
  try dsimp only at hLab
  obtain ⟨A727, n728, c729, hA, hS⟩ := hLab
  refine wp_seq_k fun K757 hK757 => ?_
  refine wp_reg ?_
  refine x_val hA (r_ltI rfl (hA.ev rfl) (hA.ev rfl)) (fun ac hA => ?_) rfl rfl rfl
  refine wpList_nil ?_
  refine hK757 _ _ ?_
  refine wp_seq_k fun K758 hK758 => ?_
  refine c_if hA rfl (fun hb759 => ?_) fun hb759 => ?_
  · replace hF := ift hb759 hF
    refine wp_skip ?_
    refine hK758 _ _ ?_
    refine wp_seq_k fun K760 hK760 => ?_
    refine wp_block_k fun Kx761 hKx761 => ?_
    refine wp_seq_k fun K762 hK762 => ?_
    refine wp_reg ?_
    obtain ⟨x763, h764, hF⟩ := bnd hF
    refine x_ia Tryd.underlying50 sz9 (hS.rd 0 rfl) h764 hA (fun ac hA => ?_) rfl rfl rfl rfl rfl rfl
    obtain ⟨cs, hV, hc765⟩ := el (hS.rd 0 rfl) h764
    obtain rfl := hV
    refine x_ld Tryd.underlying9 (hc765 0 _ rfl) hA (fun ac hA => ?_) rfl rfl rfl rfl rfl rfl
    refine x_assign hA (fun ac hA => ?_) rfl rfl rfl rfl rfl
    refine wpList_nil ?_
    refine hK762 _ _ ?_
    refine wp_reg ?_
    refine x_move hA (fun ac hA => ?_) rfl rfl rfl rfl rfl
    refine x_move hA (fun ac hA => ?_) rfl rfl rfl rfl rfl
    replace hS := hS.pk 1
    obtain ⟨y766, h767, hF⟩ := bnd hF
    refine x_call en31 hA (F_column_Text (L := own kS 9 A111 n112 c113 y109 :: L) l726 x763 A727 n728 c729 h767 hS) (fun v ac w hR hA => ?_) rfl rfl rfl rfl rfl
    obtain ⟨B768, m769, d770, rfl, hS⟩ := hR
    refine x_assign hA (fun ac hA => ?_) rfl rfl rfl rfl rfl
    refine wpList_nil ?_
    refine hKx761 _ _ ?_
    refine hK760 _ _ ?_
    refine wp_reg ?_
    obtain ⟨x771, h772, hF⟩ := ltt_ hF
    refine x_val (v := .int .i64 x771) hA (rv_i h772 (r_add rfl (hA.ev rfl) (hA.ev rfl))) (fun ac hA => ?_) rfl rfl rfl
    refine x_move hA (fun ac hA => ?_) rfl rfl rfl rfl rfl
    refine wpList_nil ?_
    replace hS := hS.pk 1
    cases hF
    exact ⟨_, N755_ _ rfl, B768, m769, d770, hA.sub _ rfl, hS⟩
  replace hF := iff' hb759 hF
  refine wp_exit ?_
  cases hF
  exact hx755_0 l726 (T755_ _ rfl) A727 n728 c729 ac w (hA.sub _ rfl) hS
end Go.Proofs.YthokgnonmcgkcaaDoor.M
namespace Go.Proofs.YthokgnonmcgkcaaDoor.M
open Go Go.RowKit Go.Proofs.YthokgnonmcgkcaaDoor.E
set_option linter.unusedVariables false
set_option linter.unusedSimpArgs false
noncomputable def slices_Index_api_Errno_api_Errno_b1 : Option (Int) :=
  some (-1)
noncomputable def slices_Index_api_Errno_api_Errno_x1_0 : Option (Int) :=
  slices_Index_api_Errno_api_Errno_b1
noncomputable def slices_Index_api_Errno_api_Errno_l1 (a0 : (List Int)) (a1 : Int) (x262 : Int) : Option ((Int) ⊕ ((Unit) ⊕ (Int))) :=
  if (decide (x262 < (a0.length : Int))) = true then ((at_ a0 x262).bind fun x286 => (if (a1 == x286) = true then (some (.inr (.inr x262))) else (ltt (IntKind.i64.wrap (x262 + 1)) fun x291 => (some (.inl (x291)))))) else (some (.inr (.inl ())))
noncomputable def slices_Index_api_Errno_api_Errno (a0 : (List Int)) (a1 : Int) : Option (Int) :=
  (loop (fun s => slices_Index_api_Errno_api_Errno_l1 a0 a1 s) (0)).bind fun t => match t with | (.inl t) => slices_Index_api_Errno_api_Errno_x1_0 | (.inr t) => some t
noncomputable def slices_Contains_api_Errno_api_Errno (a0 : (List Int)) (a1 : Int) : Option (Bool) :=
  (slices_Index_api_Errno_api_Errno a0 a1).bind fun y103 => (some (decide (0 ≤ y103)))
noncomputable def event_Form (a0 : S39) (a1 : Int) : Option (Bool) :=
  if (decide (0 ≤ a0.f1)) = true then (if (decide (a0.f1 < a1)) = true then (if (decide (-1099511627776 ≤ a0.f2)) = true then (if (decide (a0.f2 ≤ 1099511627776)) = true then (if (decide ((a0.f3.length : Int) ≤ 32)) = true then (some (decide (a0.f0 < 1099511627776))) else (some false)) else (some false)) else (some false)) else (some false)) else (some false)
noncomputable def r06_Form (a0 : S39) (a1 : Int) : Option (Bool) :=
  if (decide (0 ≤ a0.f1)) = true then (if (decide (a0.f1 < a1)) = true then (if (decide (-1099511627776 ≤ a0.f2)) = true then (if (decide (a0.f2 ≤ 1099511627776)) = true then (if (decide ((a0.f3.length : Int) ≤ 32)) = true then (some (decide (a0.f0 < 1099511627776))) else (some false)) else (some false)) else (some false)) else (some false)) else (some false)
noncomputable def event_Read_1_b1 (l237 : (List Int)) (l242 : (List (List Int))) : Option ((S86 × (List (List Int))) ⊕ (S86 × (List (List Int)))) :=
  some (.inl ((⟨l237⟩ : S86), l242))
noncomputable def event_Read_1_x1_0 (l334 : (List Int)) (l339 : (List (List Int))) : Option ((S86 × (List (List Int))) ⊕ (S86 × (List (List Int)))) :=
  event_Read_1_b1 l334 l339
noncomputable def event_Read_1_l1 (l285 : (List Int)) (l290 : (List (List Int))) (x291 : Int) : Option (((List Int) × (List (List Int)) × Int) ⊕ (((List Int) × (List (List Int))) ⊕ ((S86 × (List (List Int))) ⊕ (S86 × (List (List Int)))))) :=
  if (decide (x291 < 5)) = true then ((column_Reader_Text (⟨l285⟩ : S86) 1048576).bind fun y347 => (sum_ y347 (fun y347 => (chk (y347.1.length ≤ maxLen) ((at_ l290 x291).bind fun x361 => (ltt (IntKind.i64.wrap (x291 + 1)) fun x368 => (some (.inl (y347.2.f0, l290.set x291.toNat (stb y347.1), x368))))))) (fun y347 => (some (.inr (.inr (.inr (y347, l290)))))))) else (some (.inr (.inl (l285, l290))))
noncomputable def event_Read_1 (a0 : S86) (a1 : (List (List Int))) : Option ((S86 × (List (List Int))) ⊕ (S86 × (List (List Int)))) :=
  (loop (fun s => event_Read_1_l1 s.1 s.2.1 s.2.2) (a0.f0, a1, 0)).bind fun t => match t with | (.inl t) => event_Read_1_x1_0 t.1 t.2 | (.inr t) => some t
noncomputable def Try_event_Read_1 (a0 : (List Int)) (a60 : (List (List Int))) : Option (Bool × (List (List Int))) :=
  (event_Read_1 (⟨a0⟩ : S86) a60).bind fun y => (sum_ y (fun y => some ((((y.1.f0.length : Int) == 0), y.2))) (fun y => some ((false, y.2))))
noncomputable def event_Read_b1 (y103 : (Int × (List Int) × Int × Int)) (l697 : (List S39)) : Option ((List S39) × Int × Int) :=
  some (l697, y103.2.2.1, 0)
noncomputable def event_Read_x1_0 (y103 : (Int × (List Int) × Int × Int)) (l811 : (List S39)) : Option ((List S39) × Int × Int) :=
  event_Read_b1 y103 l811
noncomputable def event_Read_l1 (a2 : Int) (y145 : ((List Int) × Int)) (y158 : ((List Int) × Int)) (y171 : ((List Int) × Int)) (y184 : ((List (List UInt8)) × Int)) (y197 : ((List Nat) × Int)) (l758 : (List S39)) (x762 : Int) : Option (((List S39) × Int) ⊕ (((List S39)) ⊕ ((List S39) × Int × Int))) :=
  if (decide (x762 < (y145.1.length : Int))) = true then ((at_ y145.1 x762).bind fun x823 => (ltt (IntKind.u64.wrap x823) fun x826 => ((at_ y158.1 x762).bind fun x828 => ((at_ y171.1 x762).bind fun x831 => ((at_ y184.1 x762).bind fun x834 => ((at_ y197.1 x762).bind fun x837 => ((event_Form (⟨x826, x828, x831, x834, x837⟩ : S39) a2).bind fun y848 => (if (!y848) = true then (some (.inr (.inr ([], 0, 3)))) else (chk (l758.length + [(⟨x826, x828, x831, x834, x837⟩ : S39)].length ≤ 140737488355328 / 48) (ltt (IntKind.i64.wrap (x762 + 1)) fun x857 => (some (.inl (l758 ++ [(⟨x826, x828, x831, x834, x837⟩ : S39)], x857))))))))))))) else (some (.inr (.inl (l758))))
noncomputable def event_Read_j2 (a2 : Int) (y103 : (Int × (List Int) × Int × Int)) (y145 : ((List Int) × Int)) (y158 : ((List Int) × Int)) (y171 : ((List Int) × Int)) (y184 : ((List (List UInt8)) × Int)) (y197 : ((List Nat) × Int)) (b212 : Bool) : Option ((List S39) × Int × Int) :=
  if b212 = true then (some ([], 0, 3)) else ((loop (fun s => event_Read_l1 a2 y145 y158 y171 y184 y197 s.1 s.2) ([], 0)).bind fun t => match t with | (.inl t) => event_Read_x1_0 y103 t | (.inr t) => some t)
noncomputable def event_Read_j1 (a2 : Int) (y103 : (Int × (List Int) × Int × Int)) (l131 : (List (List Int))) (b132 : Bool) : Option ((List S39) × Int × Int) :=
  if (!b132) = true then (some ([], 0, 3)) else ((at_ l131 0).bind fun x138 => ((column_ReadInts x138).bind fun y145 => ((at_ l131 1).bind fun x151 => ((column_ReadInts x151).bind fun y158 => ((at_ l131 2).bind fun x164 => ((column_ReadInts x164).bind fun y171 => ((at_ l131 3).bind fun x177 => ((column_ReadTexts x177).bind fun y184 => ((at_ l131 4).bind fun x190 => ((column_ReadReals x190).bind fun y197 => ((slices_Contains_api_Errno_api_Errno [y145.2, y158.2, y171.2, y184.2, y197.2] 3).bind fun y860 => (if y860 = true then (event_Read_j2 a2 y103 y145 y158 y171 y184 y197 true) else (if ((y158.1.length : Int) != (y145.1.length : Int)) = true then (event_Read_j2 a2 y103 y145 y158 y171 y184 y197 true) else (if ((y171.1.length : Int) != (y145.1.length : Int)) = true then (event_Read_j2 a2 y103 y145 y158 y171 y184 y197 true) else (if ((y184.1.length : Int) != (y145.1.length : Int)) = true then (event_Read_j2 a2 y103 y145 y158 y171 y184 y197 true) else (event_Read_j2 a2 y103 y145 y158 y171 y184 y197 ((y197.1.length : Int) != (y145.1.length : Int))))))))))))))))))
noncomputable def event_Read (a0 : (List Int)) (a1 : Int) (a2 : Int) : Option ((List S39) × Int × Int) :=
  (page_Read a0 a1).bind fun y103 => (if (y103.2.2.2 != 0) = true then (some ([], 0, y103.2.2.2)) else (if (y103.1 == 101) = true then ((Try_event_Read_1 y103.2.1 ([[], [], [], [], []] : List (List Int))).bind fun y872 => (event_Read_j1 a2 y103 y872.2 y872.1)) else (event_Read_j1 a2 y103 ([[], [], [], [], []] : List (List Int)) false)))
end Go.Proofs.YthokgnonmcgkcaaDoor.M
