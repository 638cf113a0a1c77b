/- Texts of the claim, joined: what it uses of Mtx, Dev. -/
import Derived.Test.YthokgnonmcgkcaaDoorZf
namespace Go.Proofs.YthokgnonmcgkcaaDoor.M
open Go Go.RowKit Go.Proofs.YthokgnonmcgkcaaDoor.E
set_option linter.unusedVariables false
set_option linter.unusedSimpArgs false
set_option maxRecDepth 100000 in
set_option maxHeartbeats 4000000 in
theorem F_slices_Index_bool_bool {r : World} {L : List HP} {w : World} (a0 : (List Bool)) (a1 : Bool) (A0 : Option Addr) (n0 : Nat) (c0 : Nat) {y : (Int)} (hF : slices_Index_bool_bool a0 a1 = some y) (ha0 : RdL L kB A0 n0 c0 a0) (hS : SH r (L) w) :
    Ret Tryd.prog 69 #[.slice A0 n0 c0, .bool a1] w fun v w' => v = .int .i64 y ∧ SH r (L) w' := by
  refine enter Tryd.func69 rfl Tryd.ntmps69 [(0, .slice A0 n0 c0), (1, .bool a1)] rfl (by simp) ?_
  intro ac hA Qf hQ hQn
  unfold slices_Index_bool_bool at hF
  refine wp_seq_k fun K101 hK101 => ?_
  refine wp_reg ?_
  refine x_assign hA (fun ac hA => ?_) rfl rfl rfl rfl rfl
  refine wpList_nil ?_
  refine hK101 _ _ ?_
  refine wp_seq_k fun K102 hK102 => ?_
  refine wp_seq_k fun K198 hK198 => ?_
  refine wp_reg ?_
  refine x_move hA (fun ac hA => ?_) rfl rfl rfl rfl rfl
  refine x_len Tryd.underlying90 (hS.rdl 0 ha0 rfl).2.1 hA (fun ac hA => ?_) rfl rfl rfl rfl rfl
  refine x_move hA (fun ac hA => ?_) rfl rfl rfl rfl rfl
  refine wpList_nil ?_
  refine hK198 _ _ ?_
  refine wp_block_k fun Kx199 hKx199 => ?_
  have hb1 : slices_Index_bool_bool_b1 = some y → ∀ (ac : Act) (w : World), FR 19 [] ac [] → SH r (L) w → Kx199 ac w := by
    intro hF ac w hA hS
    unfold slices_Index_bool_bool_b1 at hF
    refine hKx199 _ _ ?_
    refine hK102 _ _ ?_
    refine wp_seq_k fun K246 hK246 => ?_
    refine wp_reg ?_
    refine x_assign hA (fun ac hA => ?_) rfl rfl rfl rfl rfl
    refine wpList_nil ?_
    refine hK246 _ _ ?_
    refine wp_ret ?_
    cases hF
    refine hQ _ _ ?_
    refine lv Tryd.results69 hA rfl ?_
    exact ⟨rfl, hS⟩
  obtain ⟨t277, hl277, hF⟩ := bnd hF
  have hR277 := hF
  have hx277_0 : (.inl ()) = t277 → ∀ (ac : Act) (w : World), FR 19 [] ac [] → SH r (L) w → Kx199 ac w := by
    intro ht ac w hA hS
    subst ht
    replace hF : slices_Index_bool_bool_x1_0 = some y := hF
    unfold slices_Index_bool_bool_x1_0 at hF
    exact hb1 hF ac w (hA.sub _ rfl) hS
  refine wp_loop_fn hl277 (fun s ac w => FR 19 [] ac [(0, .slice A0 n0 c0), (1, .bool a1), (7, .int .i64 (a0.length : Int)), (8, .int .i64 s)] ∧ SH r (L) w) ⟨hA.sub _ rfl, hS⟩ ?_
  intro N277 s277 o277 hF N277_ T277_ ac w hLab
  obtain ⟨x262, rfl⟩ : ∃ q, q = s277 := ⟨_, rfl⟩
  replace hF : slices_Index_bool_bool_l1 a0 a1 x262 = some o277 := hF
  unfold slices_Index_bool_bool_l1 at hF
  try dsimp only at hLab
  obtain ⟨hA, hS⟩ := hLab
  refine wp_seq_k fun K279 hK279 => ?_
  refine wp_reg ?_
  refine x_val hA (r_ltI rfl (hA.ev rfl) (hA.ev rfl)) (fun ac hA => ?_) rfl rfl rfl
  refine wpList_nil ?_
  refine hK279 _ _ ?_
  refine wp_seq_k fun K280 hK280 => ?_
  refine c_if hA rfl (fun hb281 => ?_) fun hb281 => ?_
  · replace hF := ift hb281 hF
    refine wp_skip ?_
    refine hK280 _ _ ?_
    refine wp_seq_k fun K282 hK282 => ?_
    refine wp_block_k fun Kx283 hKx283 => ?_
    refine wp_seq_k fun K284 hK284 => ?_
    refine wp_reg ?_
    refine x_move hA (fun ac hA => ?_) rfl rfl rfl rfl rfl
    refine x_assign hA (fun ac hA => ?_) rfl rfl rfl rfl rfl
    refine wpList_nil ?_
    refine hK284 _ _ ?_
    refine wp_seq_k fun K285 hK285 => ?_
    refine wp_reg ?_
    refine x_move hA (fun ac hA => ?_) rfl rfl rfl rfl rfl
    refine x_move hA (fun ac hA => ?_) rfl rfl rfl rfl rfl
    refine x_move hA (fun ac hA => ?_) rfl rfl rfl rfl rfl
    obtain ⟨x286, h287, hF⟩ := bnd hF
    refine x_ia Tryd.underlying90 sz4 (hS.rdl 0 ha0 rfl) h287 hA (fun ac hA => ?_) rfl rfl rfl rfl rfl rfl
    obtain ⟨cs, hV, hc288⟩ := el (hS.rdl 0 ha0 rfl) h287
    obtain rfl := hV
    refine x_ld Tryd.underlying4 (hc288 0 _ rfl) hA (fun ac hA => ?_) rfl rfl rfl rfl rfl rfl
    refine x_val hA (r_eqB Tryd.underlying4 rfl (hA.ev rfl) (hA.ev rfl)) (fun ac hA => ?_) rfl rfl rfl
    refine wpList_nil ?_
    refine hK285 _ _ ?_
    refine c_if hA rfl (fun hb289 => ?_) fun hb289 => ?_
    · replace hF := ift hb289 hF
      refine wp_seq_k fun K290 hK290 => ?_
      refine wp_reg ?_
      refine x_move hA (fun ac hA => ?_) rfl rfl rfl rfl rfl
      refine x_assign hA (fun ac hA => ?_) rfl rfl rfl rfl rfl
      refine wpList_nil ?_
      refine hK290 _ _ ?_
      refine wp_ret ?_
      cases hF
      have ht := T277_ _ rfl
      subst ht
      replace hF := hR277
      replace hF : some x262 = some y := hF
      cases hF
      refine hQ _ _ ?_
      refine lv Tryd.results69 hA rfl ?_
      exact ⟨rfl, hS⟩
    replace hF := iff' hb289 hF
    refine wp_skip ?_
    refine hKx283 _ _ ?_
    refine hK282 _ _ ?_
    refine wp_reg ?_
    obtain ⟨x291, h292, hF⟩ := ltt_ hF
    refine x_val (v := .int .i64 x291) hA (rv_i h292 (r_add rfl (hA.ev rfl) (hA.ev rfl))) (fun ac hA => ?_) rfl rfl rfl
    refine x_move hA (fun ac hA => ?_) rfl rfl rfl rfl rfl
    refine wpList_nil ?_
    cases hF
    exact ⟨_, N277_ _ rfl, hA.sub _ rfl, hS⟩
  replace hF := iff' hb281 hF
  refine wp_exit ?_
  cases hF
  exact hx277_0 (T277_ _ rfl) ac w (hA.sub _ rfl) hS
set_option maxRecDepth 100000 in
set_option maxHeartbeats 4000000 in
theorem F_slices_Contains_bool_bool {r : World} {L : List HP} {w : World} (a0 : (List Bool)) (a1 : Bool) (A0 : Option Addr) (n0 : Nat) (c0 : Nat) {y : (Bool)} (hF : slices_Contains_bool_bool a0 a1 = some y) (ha0 : RdL L kB A0 n0 c0 a0) (hS : SH r (L) w) :
    Ret Tryd.prog 46 #[.slice A0 n0 c0, .bool a1] w fun v w' => v = .bool y ∧ SH r (L) w' := by
  refine enter Tryd.func46 rfl Tryd.ntmps46 [(0, .slice A0 n0 c0), (1, .bool a1)] rfl (by simp) ?_
  intro ac hA Qf hQ hQn
  unfold slices_Contains_bool_bool at hF
  refine wp_seq_k fun K101 hK101 => ?_
  refine wp_reg ?_
  refine x_assign hA (fun ac hA => ?_) rfl rfl rfl rfl rfl
  refine wpList_nil ?_
  refine hK101 _ _ ?_
  refine wp_seq_k fun K102 hK102 => ?_
  refine wp_reg ?_
  refine x_move hA (fun ac hA => ?_) rfl rfl rfl rfl rfl
  refine x_move hA (fun ac hA => ?_) rfl rfl rfl rfl rfl
  obtain ⟨y103, h104, hF⟩ := bnd hF
  refine x_call en69 hA (F_slices_Index_bool_bool (L := L) a0 a1 A0 n0 c0 h104 (RdL.sfx 0 rfl ha0) hS) (fun v ac w hR hA => ?_) rfl rfl rfl rfl rfl
  obtain ⟨rfl, hS⟩ := hR
  refine x_val hA (r_geI rfl (hA.ev rfl) (hA.ev rfl)) (fun ac hA => ?_) rfl rfl rfl
  refine x_assign hA (fun ac hA => ?_) rfl rfl rfl rfl rfl
  refine wpList_nil ?_
  refine hK102 _ _ ?_
  refine wp_ret ?_
  cases hF
  refine hQ _ _ ?_
  refine lv Tryd.results46 hA rfl ?_
  exact ⟨rfl, hS⟩
set_option maxRecDepth 100000 in
set_option maxHeartbeats 4000000 in
theorem F_column_ReadTexts_1 {r : World} {L : List HP} {w : World} {Z : Nat → Prop} {wz : World} (a0 : S86) (a1 : (List (List UInt8))) (g0 : Nat) (g1 : Nat) {y : ((S86 × (List (List UInt8))) ⊕ (S86 × (List (List UInt8))))} (hF : column_ReadTexts_1 a0 a1 = some y) (qz : Nat) (hZ : L[qz]? = some (zone Z wz)) (hS : SH r (obj86 Z wz g0 a0 :: obj50 g1 a1 :: L) w) :
    RetS Tryd.prog 45 #[.pointer (some ⟨g0, 0, none⟩), .pointer (some ⟨g1, 0, none⟩)] w badC y (fun y v w' => v = .tuple #[] ∧ SH r (obj86 Z wz g0 y.1 :: obj50 g1 y.2 :: L) w') (fun y w' => SH r (obj86 Z wz g0 y.1 :: obj50 g1 y.2 :: L) w') := by
  refine enterS Tryd.func45 rfl Tryd.ntmps45 [(0, .pointer (some ⟨g0, 0, none⟩)), (1, .pointer (some ⟨g1, 0, none⟩))] rfl (by simp) ?_
  intro ac hA Qf hQ hQn hQp
  unfold column_ReadTexts_1 at hF
  obtain ⟨A101, n102, c103, hS⟩ := obj86_open hS
  replace hS := hS.pk 1
  have hQ0 := SH.unpure hS
  clear hS
  obtain ⟨h104, hS⟩ := hQ0
  replace hS := hS.pk 1
  obtain ⟨A105, n106, c107, hS⟩ := obj50_open hS
  refine wp_seq_k fun K108 hK108 => ?_
  refine wp_reg ?_
  refine x_assign hA (fun ac hA => ?_) rfl rfl rfl rfl rfl
  refine wpList_nil ?_
  refine hK108 _ _ ?_
  refine wp_seq_k fun K109 hK109 => ?_
  refine wp_seq_k fun K720 hK720 => ?_
  refine wp_reg ?_
  refine x_move hA (fun ac hA => ?_) rfl rfl rfl rfl rfl
  replace hS := SH.pure_ h104 hS
  replace hS := hS.pk 3
  replace hS := obj86_mk (x := a0) hS
  obtain ⟨y721, h722, hF⟩ := bnd hF
  rcases y721 with y721 | y721
  rotate_left
  · replace hF := sum_r hF
    refine x_callp (vs := #[.pointer (some ⟨g0, 0, none⟩), .int .u64 4096]) en41 hA (RetS.rf (F_column_Reader_Uint (L := blk g1 50 [.slice A105 n106 c107] :: own kS 9 A105 n106 c107 a1 :: L) a0 4096 g0 h722 (qz + 2) hZ hS)) (fun w hR => ?_) rfl rfl rfl rfl rfl
    replace hS := hR
    obtain ⟨A723, n724, c725, hS⟩ := obj86_open hS
    replace hS := hS.pk 1
    have hQ0 := SH.unpure hS
    clear hS
    obtain ⟨h726, hS⟩ := hQ0
    replace hS := SH.pure_ h726 hS
    replace hS := hS.pk 1
    replace hS := obj86_mk (x := y721) hS
    replace hS := hS.pk 2
    replace hS := hS.pk 2
    replace hS := obj50_mk (x := a1) hS
    replace hS := hS.pk 1
    cases hF
    exact hQp _ rfl _ _ hA.defers hS
  replace hF := sum_l hF
  refine x_callw (vs := #[.pointer (some ⟨g0, 0, none⟩), .int .u64 4096]) en41 hA (RetS.lf (F_column_Reader_Uint (L := blk g1 50 [.slice A105 n106 c107] :: own kS 9 A105 n106 c107 a1 :: L) a0 4096 g0 h722 (qz + 2) hZ hS)) (fun v ac w hR hA => ?_) rfl rfl rfl rfl rfl rfl rfl
  obtain ⟨rfl, hS⟩ := hR
  obtain ⟨A727, n728, c729, hS⟩ := obj86_open hS
  replace hS := hS.pk 1
  have hQ0 := SH.unpure hS
  clear hS
  obtain ⟨h730, hS⟩ := hQ0
  refine x_move hA (fun ac hA => ?_) rfl rfl rfl rfl rfl
  refine wpList_nil ?_
  refine hK720 _ _ ?_
  refine wp_block_k fun Kx731 hKx731 => ?_
  have hb1 : ∀ (l1026 : (List Int)) (l1031 : (List (List UInt8))), column_ReadTexts_1_b1 a1 l1026 l1031 = some y → ∀ (A1027 : Option Addr) (n1028 : Nat) (c1029 : Nat) (A1032 : Option Addr) (n1033 : Nat) (c1034 : Nat) (h1030 : Imm Z wz (kI .u8) A1027 n1028 c1029 l1026) (ac : Act) (w : World), FR 70 [] ac [(0, .pointer (some ⟨g0, 0, none⟩)), (1, .pointer (some ⟨g1, 0, none⟩)), (3, .slice A1032 n1033 c1034)] → SH r (blk g0 86 [.slice A1027 n1028 c1029] :: blk g1 50 [.slice A105 n106 c107] :: own kS 9 A105 n106 c107 a1 :: own kS 9 A1032 n1033 c1034 l1031 :: L) w → Kx731 ac w := by
    intro l1026 l1031 hF A1027 n1028 c1029 A1032 n1033 c1034 h1030 ac w hA hS
    unfold column_ReadTexts_1_b1 at hF
    refine hKx731 _ _ ?_
    refine hK109 _ _ ?_
    refine wp_seq_k fun K1035 hK1035 => ?_
    refine wp_reg ?_
    refine x_move hA (fun ac hA => ?_) rfl rfl rfl rfl rfl
    refine x_len Tryd.underlying50 (hS.rd 3 rfl).2.1 hA (fun ac hA => ?_) rfl rfl rfl rfl rfl
    obtain ⟨h1036, hF⟩ := chk_some hF
    refine x_mks (d := kB) (bytes := 1) false inf4 rfl Tryd.underlying90 h1036 hA hS (fun g1037 ac w hS hA => ?_) rfl rfl rfl rfl rfl rfl
    refine x_assign hA (fun ac hA => ?_) rfl rfl rfl rfl rfl
    refine wpList_nil ?_
    refine hK1035 _ _ ?_
    refine wp_seq_k fun K1038 hK1038 => ?_
    refine wp_seq_k fun K1579 hK1579 => ?_
    refine wp_reg ?_
    refine x_move hA (fun ac hA => ?_) rfl rfl rfl rfl rfl
    replace hS := SH.pure_ h1030 hS
    replace hS := hS.pk 2
    replace hS := obj86_mk (x := (⟨l1026⟩ : S86)) hS
    obtain ⟨y1580, h1581, hF⟩ := bnd hF
    rcases y1580 with y1580 | y1580
    rotate_left
    · replace hF := sum_r hF
      refine x_callp (vs := #[.pointer (some ⟨g0, 0, none⟩)]) en44 hA (RetS.rf (F_column_ints (L := own kB 4 (some ⟨g1037, 0, none⟩) ((l1031.length : Int).toNat) ((l1031.length : Int).toNat) (List.replicate (l1031.length : Int).toNat (false : Bool)) :: blk g1 50 [.slice A105 n106 c107] :: own kS 9 A105 n106 c107 a1 :: own kS 9 A1032 n1033 c1034 l1031 :: L) (⟨l1026⟩ : S86) g0 h1581 (qz + 4) hZ hS)) (fun w hR => ?_) rfl rfl rfl rfl rfl
      replace hS := hR
      obtain ⟨A1582, n1583, c1584, hS⟩ := obj86_open hS
      replace hS := hS.pk 1
      have hQ0 := SH.unpure hS
      clear hS
      obtain ⟨h1585, hS⟩ := hQ0
      replace hS := SH.pure_ h1585 hS
      replace hS := hS.pk 1
      replace hS := obj86_mk (x := y1580) hS
      replace hS := hS.pk 3
      replace hS := hS.pk 3
      replace hS := obj50_mk (x := a1) hS
      replace hS := hS.drop 2
      replace hS := hS.drop 2
      replace hS := hS.pk 1
      cases hF
      exact hQp _ rfl _ _ hA.defers hS
    replace hF := sum_l hF
    refine x_callw (vs := #[.pointer (some ⟨g0, 0, none⟩)]) en44 hA (RetS.lf (F_column_ints (L := own kB 4 (some ⟨g1037, 0, none⟩) ((l1031.length : Int).toNat) ((l1031.length : Int).toNat) (List.replicate (l1031.length : Int).toNat (false : Bool)) :: blk g1 50 [.slice A105 n106 c107] :: own kS 9 A105 n106 c107 a1 :: own kS 9 A1032 n1033 c1034 l1031 :: L) (⟨l1026⟩ : S86) g0 h1581 (qz + 4) hZ hS)) (fun v ac w hR hA => ?_) rfl rfl rfl rfl rfl rfl rfl
    obtain ⟨B1586, m1587, d1588, rfl, hS⟩ := hR
    replace hS := hS.pk 1
    obtain ⟨A1589, n1590, c1591, hS⟩ := obj86_open hS
    replace hS := hS.pk 1
    have hQ0 := SH.unpure hS
    clear hS
    obtain ⟨h1592, hS⟩ := hQ0
    refine x_len Tryd.underlying47 (hS.rd 1 rfl).2.1 hA (fun ac hA => ?_) rfl rfl rfl rfl rfl
    refine x_move hA (fun ac hA => ?_) rfl rfl rfl rfl rfl
    refine wpList_nil ?_
    refine hK1579 _ _ ?_
    refine wp_block_k fun Kx1593 hKx1593 => ?_
    have hb2 : ∀ (l1851 : (List Int)) (l1856 : (List (List UInt8))) (l1860 : (List Bool)), column_ReadTexts_1_b2 l1851 l1856 l1860 = some y → ∀ (A1852 : Option Addr) (n1853 : Nat) (c1854 : Nat) (A1857 : Option Addr) (n1858 : Nat) (c1859 : Nat) (h1855 : Imm Z wz (kI .u8) A1852 n1853 c1854 l1851) (ac : Act) (w : World), FR 70 [] ac [(0, .pointer (some ⟨g0, 0, none⟩)), (1, .pointer (some ⟨g1, 0, none⟩)), (5, .slice (some ⟨g1037, 0, none⟩) ((l1031.length : Int).toNat) ((l1031.length : Int).toNat))] → SH r (blk g0 86 [.slice A1852 n1853 c1854] :: blk g1 50 [.slice A1857 n1858 c1859] :: own kS 9 A1857 n1858 c1859 l1856 :: own kB 4 (some ⟨g1037, 0, none⟩) ((l1031.length : Int).toNat) ((l1031.length : Int).toNat) l1860 :: L) w → Kx1593 ac w := by
      intro l1851 l1856 l1860 hF A1852 n1853 c1854 A1857 n1858 c1859 h1855 ac w hA hS
      unfold column_ReadTexts_1_b2 at hF
      refine hKx1593 _ _ ?_
      refine hK1038 _ _ ?_
      refine wp_reg ?_
      refine x_move hA (fun ac hA => ?_) rfl rfl rfl rfl rfl
      refine x_move hA (fun ac hA => ?_) rfl rfl rfl rfl rfl
      obtain ⟨y1861, h1862, hF⟩ := bnd hF
      refine x_call en46 hA (F_slices_Contains_bool_bool (L := blk g0 86 [.slice A1852 n1853 c1854] :: blk g1 50 [.slice A1857 n1858 c1859] :: own kS 9 A1857 n1858 c1859 l1856 :: own kB 4 (some ⟨g1037, 0, none⟩) ((l1031.length : Int).toNat) ((l1031.length : Int).toNat) l1860 :: L) l1860 false (some ⟨g1037, 0, none⟩) ((l1031.length : Int).toNat) ((l1031.length : Int).toNat) h1862 (RdL.own 3 rfl (hS.dropN 0)) hS) (fun v ac w hR hA => ?_) rfl rfl rfl rfl rfl
      obtain ⟨rfl, hS⟩ := hR
      refine x_val hA (r_not rfl (hA.ev rfl)) (fun ac hA => ?_) rfl rfl rfl
      replace hS := SH.pure_ h1855 hS
      replace hS := hS.pk 1
      replace hS := obj86_mk (x := (⟨l1851⟩ : S86)) hS
      obtain ⟨y1863, h1864, hF⟩ := bnd hF
      rcases y1863 with y1863 | y1863
      rotate_left
      · replace hF := sum_r hF
        refine x_callp (vs := #[.pointer (some ⟨g0, 0, none⟩), .bool (!y1861)]) en42 hA (RetS.rf (F_column_Reader_Check (L := blk g1 50 [.slice A1857 n1858 c1859] :: own kS 9 A1857 n1858 c1859 l1856 :: own kB 4 (some ⟨g1037, 0, none⟩) ((l1031.length : Int).toNat) ((l1031.length : Int).toNat) l1860 :: L) (⟨l1851⟩ : S86) (!y1861) g0 h1864 (qz + 3) hZ hS)) (fun w hR => ?_) rfl rfl rfl rfl rfl
        replace hS := hR
        obtain ⟨A1865, n1866, c1867, hS⟩ := obj86_open hS
        replace hS := hS.pk 1
        have hQ0 := SH.unpure hS
        clear hS
        obtain ⟨h1868, hS⟩ := hQ0
        replace hS := SH.pure_ h1868 hS
        replace hS := hS.pk 1
        replace hS := obj86_mk (x := y1863) hS
        replace hS := hS.pk 2
        replace hS := hS.pk 2
        replace hS := obj50_mk (x := l1856) hS
        replace hS := hS.drop 2
        replace hS := hS.pk 1
        cases hF
        exact hQp _ rfl _ _ hA.defers hS
      replace hF := sum_l hF
      refine x_callw (vs := #[.pointer (some ⟨g0, 0, none⟩), .bool (!y1861)]) en42 hA (RetS.lf (F_column_Reader_Check (L := blk g1 50 [.slice A1857 n1858 c1859] :: own kS 9 A1857 n1858 c1859 l1856 :: own kB 4 (some ⟨g1037, 0, none⟩) ((l1031.length : Int).toNat) ((l1031.length : Int).toNat) l1860 :: L) (⟨l1851⟩ : S86) (!y1861) g0 h1864 (qz + 3) hZ hS)) (fun v ac w hR hA => ?_) rfl rfl rfl rfl rfl rfl rfl
      obtain ⟨rfl, hS⟩ := hR
      obtain ⟨A1869, n1870, c1871, hS⟩ := obj86_open hS
      replace hS := hS.pk 1
      have hQ0 := SH.unpure hS
      clear hS
      obtain ⟨h1872, hS⟩ := hQ0
      refine wpList_nil ?_
      replace hS := SH.pure_ h1872 hS
      replace hS := hS.pk 1
      replace hS := obj86_mk (x := y1863) hS
      replace hS := hS.pk 2
      replace hS := hS.pk 2
      replace hS := obj50_mk (x := l1856) hS
      replace hS := hS.drop 2
      replace hS := hS.pk 1
      cases hF
      refine hQn _ rfl _ _ ?_
      refine lv0n Tryd.results45 hA ?_
      exact ⟨rfl, hS⟩
    obtain ⟨t2057, hl2057, hF⟩ := bnd hF
    have hR2057 := hF
    have hx2057_2 : ∀ (l2048 : (List Int)) (l2053 : (List (List UInt8))) (l2057 : (List Bool)), (.inl (l2048, l2053, l2057)) = t2057 → ∀ (A2049 : Option Addr) (n2050 : Nat) (c2051 : Nat) (A2054 : Option Addr) (n2055 : Nat) (c2056 : Nat) (h2052 : Imm Z wz (kI .u8) A2049 n2050 c2051 l2048) (ac : Act) (w : World), FR 70 [] ac [(0, .pointer (some ⟨g0, 0, none⟩)), (1, .pointer (some ⟨g1, 0, none⟩)), (5, .slice (some ⟨g1037, 0, none⟩) ((l1031.length : Int).toNat) ((l1031.length : Int).toNat))] → SH r (blk g0 86 [.slice A2049 n2050 c2051] :: blk g1 50 [.slice A2054 n2055 c2056] :: own kS 9 A2054 n2055 c2056 l2053 :: own kB 4 (some ⟨g1037, 0, none⟩) ((l1031.length : Int).toNat) ((l1031.length : Int).toNat) l2057 :: L) w → Kx1593 ac w := by
      intro l2048 l2053 l2057 ht A2049 n2050 c2051 A2054 n2055 c2056 h2052 ac w hA hS
      subst ht
      replace hF : column_ReadTexts_1_x1_2 l2048 l2053 l2057 = some y := hF
      unfold column_ReadTexts_1_x1_2 at hF
      exact hb2 l2048 l2053 l2057 hF A2049 n2050 c2051 A2054 n2055 c2056 h2052 ac w (hA.sub _ rfl) hS
    replace hS := hS.pk 1
    replace hS := hS.pk 2
    replace hS := hS.pk 5
    replace hS := hS.pk 5
    replace hS := hS.pk 5
    replace hS := hS.pk 5
    refine wp_loop_fn hl2057 (fun s ac w => ∃ (A1956 : Option Addr) (n1957 : Nat) (c1958 : Nat) (A1961 : Option Addr) (n1962 : Nat) (c1963 : Nat), Imm Z wz (kI .u8) A1956 n1957 c1958 s.1 ∧ FR 70 [] ac [(0, .pointer (some ⟨g0, 0, none⟩)), (1, .pointer (some ⟨g1, 0, none⟩)), (3, .slice A1032 n1033 c1034), (5, .slice (some ⟨g1037, 0, none⟩) ((l1031.length : Int).toNat) ((l1031.length : Int).toNat)), (38, .slice B1586 m1587 d1588), (39, .int .i64 (y1580.1.length : Int)), (40, .int .i64 s.2.2.2)] ∧ SH r (blk g0 86 [.slice A1956 n1957 c1958] :: blk g1 50 [.slice A1961 n1962 c1963] :: own kS 9 A1961 n1962 c1963 s.2.1 :: own kS 9 A1032 n1033 c1034 l1031 :: own kB 4 (some ⟨g1037, 0, none⟩) ((l1031.length : Int).toNat) ((l1031.length : Int).toNat) s.2.2.1 :: own (kI .i64) 2 B1586 m1587 d1588 y1580.1 :: L) w) ⟨A1589, n1590, c1591, A105, n106, c107, h1592, hA.sub _ rfl, hS⟩ ?_
    intro N2057 s2057 o2057 hF N2057_ T2057_ ac w hLab
    obtain ⟨l1955, l1960, l1964, x1965⟩ := s2057
    replace hF : column_ReadTexts_1_l1 l1031 y1580 l1955 l1960 l1964 x1965 = some o2057 := hF
    unfold column_ReadTexts_1_l1 at hF
    try dsimp only at hLab
    obtain ⟨A1956, n1957, c1958, A1961, n1962, c1963, h1959, hA, hS⟩ := hLab
    refine wp_seq_k fun K2059 hK2059 => ?_
    refine wp_reg ?_
    refine x_val hA (r_ltI rfl (hA.ev rfl) (hA.ev rfl)) (fun ac hA => ?_) rfl rfl rfl
    refine wpList_nil ?_
    refine hK2059 _ _ ?_
    refine wp_seq_k fun K2060 hK2060 => ?_
    refine c_if hA rfl (fun hb2061 => ?_) fun hb2061 => ?_
    · replace hF := ift hb2061 hF
      refine wp_skip ?_
      refine hK2060 _ _ ?_
      refine wp_seq_k fun K2062 hK2062 => ?_
      refine wp_block_k fun Kx2063 hKx2063 => ?_
      refine wp_seq_k fun K2064 hK2064 => ?_
      refine wp_reg ?_
      obtain ⟨x2065, h2066, hF⟩ := bnd hF
      refine x_ia Tryd.underlying47 sz2 (hS.rd 5 rfl) h2066 hA (fun ac hA => ?_) rfl rfl rfl rfl rfl rfl
      obtain ⟨cs, hV, hc2067⟩ := el (hS.rd 5 rfl) h2066
      obtain rfl := hV
      refine x_ld Tryd.underlying2 (hc2067 0 _ rfl) hA (fun ac hA => ?_) rfl rfl rfl rfl rfl rfl
      refine x_assign hA (fun ac hA => ?_) rfl rfl rfl rfl rfl
      refine wpList_nil ?_
      refine hK2064 _ _ ?_
      refine wp_seq_k fun K2068 hK2068 => ?_
      have hj1 : ∀ (l2090 : (List Int)), column_ReadTexts_1_j1 l1031 l1960 l1964 x1965 x2065 l2090 = some o2057 → ∀ (A2091 : Option Addr) (n2092 : Nat) (c2093 : Nat) (h2094 : Imm Z wz (kI .u8) A2091 n2092 c2093 l2090) (ac : Act) (w : World), FR 70 [] ac [(0, .pointer (some ⟨g0, 0, none⟩)), (1, .pointer (some ⟨g1, 0, none⟩)), (3, .slice A1032 n1033 c1034), (5, .slice (some ⟨g1037, 0, none⟩) ((l1031.length : Int).toNat) ((l1031.length : Int).toNat)), (7, .int .i64 x2065), (38, .slice B1586 m1587 d1588), (39, .int .i64 (y1580.1.length : Int)), (40, .int .i64 x1965)] → SH r (blk g0 86 [.slice A2091 n2092 c2093] :: blk g1 50 [.slice A1961 n1962 c1963] :: own kS 9 A1961 n1962 c1963 l1960 :: own kS 9 A1032 n1033 c1034 l1031 :: own kB 4 (some ⟨g1037, 0, none⟩) ((l1031.length : Int).toNat) ((l1031.length : Int).toNat) l1964 :: own (kI .i64) 2 B1586 m1587 d1588 y1580.1 :: L) w → K2068 ac w := by
        intro l2090 hF A2091 n2092 c2093 h2094 ac w hA hS
        unfold column_ReadTexts_1_j1 at hF
        refine hK2068 _ _ ?_
        refine wp_seq_k fun K2095 hK2095 => ?_
        refine wp_reg ?_
        refine x_move hA (fun ac hA => ?_) rfl rfl rfl rfl rfl
        refine x_move hA (fun ac hA => ?_) rfl rfl rfl rfl rfl
        obtain ⟨x2096, h2097, hF⟩ := bnd hF
        refine x_ia Tryd.underlying90 sz4 (hS.rd 4 rfl) h2097 hA (fun ac hA => ?_) rfl rfl rfl rfl rfl rfl
        refine x_sto (z' := true) (off := 0) (vs := [.bool true]) 4 sz4 hA hS rfl (at_some h2097).2.2 (fun c h => by cases h; rfl) (fun  ac w hS hA => ?_) rfl rfl rfl rfl rfl rfl rfl rfl
        refine wpList_nil ?_
        refine hK2095 _ _ ?_
        refine wp_draw [0, 0, 0, 6, 14, 30, 63, 127] [5, 6, 7] rfl hA hS (by kernel_rfl) (by kernel_rfl) (by kernel_rfl) (by kernel_rfl) fun w hS => ?_
        obtain ⟨x2098, h2099, hF⟩ := bnd hF
        obtain ⟨cs, hV, hc2100⟩ := el (hS.rd 4 rfl) h2099
        obtain rfl := hV
        refine ⟨[(0, .slice A1961 n1962 c1963), (1, .slice A1032 n1033 c1034), (2, .int .i64 x2065), (3, .pointer (some (ea A1032 (x2065.toNat * 1)))), (4, str x2098)], ?_⟩
        refine dEff [0, 1, 2, 3, 4] [5] (by kernel_rfl) ⟨pu rfl rfl [(1, .pointer (some ⟨g1, 0, none⟩))] (fun ac hA => y_ld Tryd.underlying50 (hS.cell 2 rfl 0 _ rfl) hA rfl rfl rfl) rfl rfl, pu rfl rfl [(3, .slice A1032 n1033 c1034)] (fun ac hA => y_move hA rfl rfl) rfl rfl, pu rfl rfl [(7, .int .i64 x2065)] (fun ac hA => y_move hA rfl rfl) rfl rfl, pu rfl rfl [(58, .slice A1032 n1033 c1034), (59, .int .i64 x2065)] (fun ac hA => y_ia Tryd.underlying50 sz9 (hS.rd 4 rfl) h2099 hA rfl rfl rfl) rfl rfl, pu rfl rfl [(60, .pointer (some (ea A1032 (x2065.toNat * 1))))] (fun ac hA => y_ld Tryd.underlying9 (hc2100 0 _ rfl) hA rfl rfl rfl) rfl rfl, trivial⟩ (by kernel_rfl) (by kernel_rfl) ⟨ef rfl [(61, str x2098)] (fun ac hA K hK => ?_) rfl rfl, trivial⟩
        refine z_bsl (d := kS) (e := 9) (ps := #[(0, str x2098)]) (cells := [str x2098]) (xs := [x2098]) (fun w => by kernel_rfl) rfl ⟨[str x2098], _, rfl, rfl, rfl⟩ hA hS (fun g2101 w hS => ?_) rfl rfl rfl
        refine hK _ [] _ rfl ?_
        refine dEff [0] [6] (by kernel_rfl) ⟨pu rfl rfl [(1, .pointer (some ⟨g1, 0, none⟩))] (fun ac hA => y_ld Tryd.underlying50 (hS.cell 3 rfl 0 _ rfl) hA rfl rfl rfl) rfl rfl, trivial⟩ (by kernel_rfl) (by kernel_rfl) ⟨ef rfl [(57, .slice A1961 n1962 c1963), (62, .slice (some ⟨g2101, 0, none⟩) 1 1)] (fun ac hA K hK => ?_) rfl rfl, trivial⟩
        obtain ⟨h2102, hF⟩ := chk_some hF
        have hr := hS.rd 0 rfl
        refine z_app 4 inf9 Tryd.underlying50 hA hS hr.1 hr.2.1 h2102 rfl (fun A2103 n2104 c2105 w hS => ?_) rfl rfl rfl rfl rfl rfl
        refine hK _ [] _ rfl ?_
        refine dEff [] [7] (by kernel_rfl) trivial (by kernel_rfl) (by kernel_rfl) ⟨ef rfl [(1, .pointer (some ⟨g1, 0, none⟩)), (63, .slice A2103 n2104 c2105)] (fun ac hA K hK => ?_) rfl rfl, trivial⟩
        refine z_stb 4 sz50 hA hS rfl (fun  w hS => ?_) rfl rfl rfl rfl rfl rfl
        refine hK _ [] _ rfl ?_
        refine dEnd [] (by kernel_rfl) trivial ⟨by kernel_rfl, by kernel_rfl⟩ [(0, .pointer (some ⟨g0, 0, none⟩)), (1, .pointer (some ⟨g1, 0, none⟩)), (3, .slice A1032 n1033 c1034), (5, .slice (some ⟨g1037, 0, none⟩) ((l1031.length : Int).toNat) ((l1031.length : Int).toNat)), (38, .slice B1586 m1587 d1588), (39, .int .i64 (y1580.1.length : Int)), (40, .int .i64 x1965)] rfl (fun ac hA => ?_)
        refine hKx2063 _ _ ?_
        refine hK2062 _ _ ?_
        refine wp_reg ?_
        obtain ⟨x2106, h2107, hF⟩ := ltt_ hF
        refine x_val (v := .int .i64 x2106) hA (rv_i h2107 (r_add rfl (hA.ev rfl) (hA.ev rfl))) (fun ac hA => ?_) rfl rfl rfl
        refine x_move hA (fun ac hA => ?_) rfl rfl rfl rfl rfl
        refine wpList_nil ?_
        replace hS := hS.drop 2
        replace hS := hS.pk 5
        replace hS := hS.pk 3
        replace hS := hS.pk 5
        replace hS := hS.pk 4
        replace hS := hS.pk 4
        replace hS := hS.pk 5
        cases hF
        exact ⟨_, N2057_ _ rfl, A2091, n2092, c2093, A2103, n2104, c2105, h2094, hA.sub _ rfl, hS⟩
      refine wp_reg ?_
      refine x_move hA (fun ac hA => ?_) rfl rfl rfl rfl rfl
      refine x_move hA (fun ac hA => ?_) rfl rfl rfl rfl rfl
      refine x_val hA (r_geI rfl (hA.ev rfl) (hA.ev rfl)) (fun ac hA => ?_) rfl rfl rfl
      refine x_move hA (fun ac hA => ?_) rfl rfl rfl rfl rfl
      refine bcase (b := decide (0 ≤ x2065)) (fun hb2108 => ?_) fun hb2108 => ?_
      · replace hF := ift hb2108 hF
        refine x_on hb2108 hA ?_ rfl rfl rfl
        refine x_move hA (fun ac hA => ?_) rfl rfl rfl rfl rfl
        refine x_on hb2108 hA ?_ rfl rfl rfl
        refine x_move hA (fun ac hA => ?_) rfl rfl rfl rfl rfl
        refine x_on hb2108 hA ?_ rfl rfl rfl
        refine x_len Tryd.underlying50 (hS.rd 3 rfl).2.1 hA (fun ac hA => ?_) rfl rfl rfl rfl rfl
        refine x_on hb2108 hA ?_ rfl rfl rfl
        refine x_val hA (r_ltI rfl (hA.ev rfl) (hA.ev rfl)) (fun ac hA => ?_) rfl rfl rfl
        refine x_pickt hb2108 hA (fun ac hA => ?_) rfl rfl rfl rfl rfl rfl
        replace hS := SH.pure_ h1959 hS
        replace hS := hS.pk 1
        replace hS := obj86_mk (x := (⟨l1955⟩ : S86)) hS
        obtain ⟨y2109, h2110, hF⟩ := bnd hF
        rcases y2109 with y2109 | y2109
        rotate_left
        · replace hF := sum_r hF
          refine x_callp (vs := #[.pointer (some ⟨g0, 0, none⟩), .bool (decide (x2065 < (l1031.length : Int)))]) en42 hA (RetS.rf (F_column_Reader_Check (L := blk g1 50 [.slice A1961 n1962 c1963] :: own kS 9 A1961 n1962 c1963 l1960 :: own kS 9 A1032 n1033 c1034 l1031 :: own kB 4 (some ⟨g1037, 0, none⟩) ((l1031.length : Int).toNat) ((l1031.length : Int).toNat) l1964 :: own (kI .i64) 2 B1586 m1587 d1588 y1580.1 :: L) (⟨l1955⟩ : S86) (decide (x2065 < (l1031.length : Int))) g0 h2110 (qz + 5) hZ hS)) (fun w hR => ?_) rfl rfl rfl rfl rfl
          replace hS := hR
          obtain ⟨A2111, n2112, c2113, hS⟩ := obj86_open hS
          replace hS := hS.pk 1
          have hQ0 := SH.unpure hS
          clear hS
          obtain ⟨h2114, hS⟩ := hQ0
          replace hS := SH.pure_ h2114 hS
          replace hS := hS.pk 1
          replace hS := obj86_mk (x := y2109) hS
          replace hS := hS.pk 2
          replace hS := hS.pk 2
          replace hS := obj50_mk (x := l1960) hS
          replace hS := hS.drop 2
          replace hS := hS.drop 2
          replace hS := hS.drop 2
          replace hS := hS.pk 1
          cases hF
          have ht := T2057_ _ rfl
          subst ht
          replace hF := hR2057
          replace hF : some (.inr (y2109, l1960)) = some y := hF
          cases hF
          exact hQp _ rfl _ _ hA.defers hS
        replace hF := sum_l hF
        refine x_callw (vs := #[.pointer (some ⟨g0, 0, none⟩), .bool (decide (x2065 < (l1031.length : Int)))]) en42 hA (RetS.lf (F_column_Reader_Check (L := blk g1 50 [.slice A1961 n1962 c1963] :: own kS 9 A1961 n1962 c1963 l1960 :: own kS 9 A1032 n1033 c1034 l1031 :: own kB 4 (some ⟨g1037, 0, none⟩) ((l1031.length : Int).toNat) ((l1031.length : Int).toNat) l1964 :: own (kI .i64) 2 B1586 m1587 d1588 y1580.1 :: L) (⟨l1955⟩ : S86) (decide (x2065 < (l1031.length : Int))) g0 h2110 (qz + 5) hZ hS)) (fun v ac w hR hA => ?_) rfl rfl rfl rfl rfl rfl rfl
        obtain ⟨rfl, hS⟩ := hR
        obtain ⟨A2115, n2116, c2117, hS⟩ := obj86_open hS
        replace hS := hS.pk 1
        have hQ0 := SH.unpure hS
        clear hS
        obtain ⟨h2118, hS⟩ := hQ0
        refine wpList_nil ?_
        exact hj1 y2109.f0 hF A2115 n2116 c2117 h2118 ac w (hA.sub _ rfl) hS
      replace hF := iff' hb2108 hF
      refine x_off hb2108 hA (fun ac hA => ?_) rfl rfl rfl rfl rfl
      refine x_off hb2108 hA (fun ac hA => ?_) rfl rfl rfl rfl rfl
      refine x_off hb2108 hA (fun ac hA => ?_) rfl rfl rfl rfl rfl
      refine x_off hb2108 hA (fun ac hA => ?_) rfl rfl rfl rfl rfl
      refine x_pickf hb2108 hA (fun ac hA => ?_) rfl rfl rfl rfl rfl rfl
      replace hS := SH.pure_ h1959 hS
      replace hS := hS.pk 1
      replace hS := obj86_mk (x := (⟨l1955⟩ : S86)) hS
      obtain ⟨y2119, h2120, hF⟩ := bnd hF
      rcases y2119 with y2119 | y2119
      rotate_left
      · replace hF := sum_r hF
        refine x_callp (vs := #[.pointer (some ⟨g0, 0, none⟩), .bool false]) en42 hA (RetS.rf (F_column_Reader_Check (L := blk g1 50 [.slice A1961 n1962 c1963] :: own kS 9 A1961 n1962 c1963 l1960 :: own kS 9 A1032 n1033 c1034 l1031 :: own kB 4 (some ⟨g1037, 0, none⟩) ((l1031.length : Int).toNat) ((l1031.length : Int).toNat) l1964 :: own (kI .i64) 2 B1586 m1587 d1588 y1580.1 :: L) (⟨l1955⟩ : S86) false g0 h2120 (qz + 5) hZ hS)) (fun w hR => ?_) rfl rfl rfl rfl rfl
        replace hS := hR
        obtain ⟨A2121, n2122, c2123, hS⟩ := obj86_open hS
        replace hS := hS.pk 1
        have hQ0 := SH.unpure hS
        clear hS
        obtain ⟨h2124, hS⟩ := hQ0
        replace hS := SH.pure_ h2124 hS
        replace hS := hS.pk 1
        replace hS := obj86_mk (x := y2119) hS
        replace hS := hS.pk 2
        replace hS := hS.pk 2
        replace hS := obj50_mk (x := l1960) hS
        replace hS := hS.drop 2
        replace hS := hS.drop 2
        replace hS := hS.drop 2
        replace hS := hS.pk 1
        cases hF
        have ht := T2057_ _ rfl
        subst ht
        replace hF := hR2057
        replace hF : some (.inr (y2119, l1960)) = some y := hF
        cases hF
        exact hQp _ rfl _ _ hA.defers hS
      replace hF := sum_l hF
      refine x_callw (vs := #[.pointer (some ⟨g0, 0, none⟩), .bool false]) en42 hA (RetS.lf (F_column_Reader_Check (L := blk g1 50 [.slice A1961 n1962 c1963] :: own kS 9 A1961 n1962 c1963 l1960 :: own kS 9 A1032 n1033 c1034 l1031 :: own kB 4 (some ⟨g1037, 0, none⟩) ((l1031.length : Int).toNat) ((l1031.length : Int).toNat) l1964 :: own (kI .i64) 2 B1586 m1587 d1588 y1580.1 :: L) (⟨l1955⟩ : S86) false g0 h2120 (qz + 5) hZ hS)) (fun v ac w hR hA => ?_) rfl rfl rfl rfl rfl rfl rfl
      obtain ⟨rfl, hS⟩ := hR
      obtain ⟨A2125, n2126, c2127, hS⟩ := obj86_open hS
      replace hS := hS.pk 1
      have hQ0 := SH.unpure hS
      clear hS
      obtain ⟨h2128, hS⟩ := hQ0
      refine wpList_nil ?_
      exact hj1 y2119.f0 hF A2125 n2126 c2127 h2128 ac w (hA.sub _ rfl) hS
    replace hF := iff' hb2061 hF
    refine wp_exit ?_
    replace hS := hS.drop 3
    replace hS := hS.drop 4
    cases hF
    exact hx2057_2 l1955 l1960 l1964 (T2057_ _ rfl) A1956 n1957 c1958 A1961 n1962 c1963 h1959 ac w (hA.sub _ rfl) hS
  obtain ⟨t2339, hl2339, hF⟩ := bnd hF
  have hR2339 := hF
  have hx2339_0 : ∀ (l2331 : (List Int)) (l2336 : (List (List UInt8))), (.inl (l2331, l2336)) = t2339 → ∀ (A2332 : Option Addr) (n2333 : Nat) (c2334 : Nat) (A2337 : Option Addr) (n2338 : Nat) (c2339 : Nat) (h2335 : Imm Z wz (kI .u8) A2332 n2333 c2334 l2331) (ac : Act) (w : World), FR 70 [] ac [(0, .pointer (some ⟨g0, 0, none⟩)), (1, .pointer (some ⟨g1, 0, none⟩)), (3, .slice A2337 n2338 c2339)] → SH r (blk g0 86 [.slice A2332 n2333 c2334] :: blk g1 50 [.slice A105 n106 c107] :: own kS 9 A105 n106 c107 a1 :: own kS 9 A2337 n2338 c2339 l2336 :: L) w → Kx731 ac w := by
    intro l2331 l2336 ht A2332 n2333 c2334 A2337 n2338 c2339 h2335 ac w hA hS
    subst ht
    replace hF : column_ReadTexts_1_x2_0 a1 l2331 l2336 = some y := hF
    unfold column_ReadTexts_1_x2_0 at hF
    exact hb1 l2331 l2336 hF A2332 n2333 c2334 A2337 n2338 c2339 h2335 ac w (hA.sub _ rfl) hS
  replace hS := SH.nil_own (d := kS) (e := 9) hS
  replace hS := hS.pk 3
  replace hS := hS.pk 3
  replace hS := hS.pk 3
  refine wp_loop_fn hl2339 (fun s ac w => ∃ (A2230 : Option Addr) (n2231 : Nat) (c2232 : Nat) (A2235 : Option Addr) (n2236 : Nat) (c2237 : Nat), Imm Z wz (kI .u8) A2230 n2231 c2232 s.1 ∧ FR 70 [] ac [(0, .pointer (some ⟨g0, 0, none⟩)), (1, .pointer (some ⟨g1, 0, none⟩)), (3, .slice A2235 n2236 c2237), (9, .int .u64 y721.1), (10, .int .u64 s.2.2)] ∧ SH r (blk g0 86 [.slice A2230 n2231 c2232] :: blk g1 50 [.slice A105 n106 c107] :: own kS 9 A105 n106 c107 a1 :: own kS 9 A2235 n2236 c2237 s.2.1 :: L) w) ⟨A727, n728, c729, none, 0, 0, h730, hA.sub _ rfl, hS⟩ ?_
  intro N2339 s2339 o2339 hF N2339_ T2339_ ac w hLab
  obtain ⟨l2229, l2234, x2238⟩ := s2339
  replace hF : column_ReadTexts_1_l2 a1 y721 l2229 l2234 x2238 = some o2339 := hF
  unfold column_ReadTexts_1_l2 at hF
  try dsimp only at hLab
  obtain ⟨A2230, n2231, c2232, A2235, n2236, c2237, h2233, hA, hS⟩ := hLab
  refine wp_seq_k fun K2341 hK2341 => ?_
  refine wp_reg ?_
  refine x_val hA (r_ltI rfl (hA.ev rfl) (hA.ev rfl)) (fun ac hA => ?_) rfl rfl rfl
  refine wpList_nil ?_
  refine hK2341 _ _ ?_
  refine wp_seq_k fun K2342 hK2342 => ?_
  refine c_if hA rfl (fun hb2343 => ?_) fun hb2343 => ?_
  · replace hF := ift hb2343 hF
    refine wp_skip ?_
    refine hK2342 _ _ ?_
    refine wp_seq_k fun K2344 hK2344 => ?_
    refine wp_block_k fun Kx2345 hKx2345 => ?_
    refine wp_seq_k fun K2346 hK2346 => ?_
    refine wp_reg ?_
    refine x_move hA (fun ac hA => ?_) rfl rfl rfl rfl rfl
    replace hS := SH.pure_ h2233 hS
    replace hS := hS.pk 1
    replace hS := obj86_mk (x := (⟨l2229⟩ : S86)) hS
    obtain ⟨y2347, h2348, hF⟩ := bnd hF
    rcases y2347 with y2347 | y2347
    rotate_left
    · replace hF := sum_r hF
      refine x_callp (vs := #[.pointer (some ⟨g0, 0, none⟩), .int .i64 32]) en15 hA (RetS.rf (F_column_Reader_Text (L := blk g1 50 [.slice A105 n106 c107] :: own kS 9 A105 n106 c107 a1 :: own kS 9 A2235 n2236 c2237 l2234 :: L) (⟨l2229⟩ : S86) 32 g0 h2348 (qz + 3) hZ hS)) (fun w hR => ?_) rfl rfl rfl rfl rfl
      replace hS := hR
      obtain ⟨A2349, n2350, c2351, hS⟩ := obj86_open hS
      replace hS := hS.pk 1
      have hQ0 := SH.unpure hS
      clear hS
      obtain ⟨h2352, hS⟩ := hQ0
      replace hS := SH.pure_ h2352 hS
      replace hS := hS.pk 1
      replace hS := obj86_mk (x := y2347) hS
      replace hS := hS.pk 2
      replace hS := hS.pk 2
      replace hS := obj50_mk (x := a1) hS
      replace hS := hS.drop 2
      replace hS := hS.pk 1
      cases hF
      have ht := T2339_ _ rfl
      subst ht
      replace hF := hR2339
      replace hF : some (.inr (y2347, a1)) = some y := hF
      cases hF
      exact hQp _ rfl _ _ hA.defers hS
    replace hF := sum_l hF
    refine x_callw (vs := #[.pointer (some ⟨g0, 0, none⟩), .int .i64 32]) en15 hA (RetS.lf (F_column_Reader_Text (L := blk g1 50 [.slice A105 n106 c107] :: own kS 9 A105 n106 c107 a1 :: own kS 9 A2235 n2236 c2237 l2234 :: L) (⟨l2229⟩ : S86) 32 g0 h2348 (qz + 3) hZ hS)) (fun v ac w hR hA => ?_) rfl rfl rfl rfl rfl rfl rfl
    obtain ⟨rfl, hS⟩ := hR
    obtain ⟨A2353, n2354, c2355, hS⟩ := obj86_open hS
    replace hS := hS.pk 1
    have hQ0 := SH.unpure hS
    clear hS
    obtain ⟨h2356, hS⟩ := hQ0
    refine x_assign hA (fun ac hA => ?_) rfl rfl rfl rfl rfl
    refine wpList_nil ?_
    refine hK2346 _ _ ?_
    refine wp_seq_k fun K2357 hK2357 => ?_
    have hj2 : ∀ (l2384 : (List Int)), column_ReadTexts_1_j2 l2234 x2238 y2347 l2384 = some o2339 → ∀ (A2385 : Option Addr) (n2386 : Nat) (c2387 : Nat) (h2388 : Imm Z wz (kI .u8) A2385 n2386 c2387 l2384) (ac : Act) (w : World), FR 70 [] ac [(0, .pointer (some ⟨g0, 0, none⟩)), (1, .pointer (some ⟨g1, 0, none⟩)), (3, .slice A2235 n2236 c2237), (4, str y2347.1), (9, .int .u64 y721.1), (10, .int .u64 x2238)] → SH r (blk g0 86 [.slice A2385 n2386 c2387] :: blk g1 50 [.slice A105 n106 c107] :: own kS 9 A105 n106 c107 a1 :: own kS 9 A2235 n2236 c2237 l2234 :: L) w → K2357 ac w := by
      intro l2384 hF A2385 n2386 c2387 h2388 ac w hA hS
      unfold column_ReadTexts_1_j2 at hF
      refine hK2357 _ _ ?_
      refine wp_reg ?_
      refine x_move hA (fun ac hA => ?_) rfl rfl rfl rfl rfl
      refine x_move hA (fun ac hA => ?_) rfl rfl rfl rfl rfl
      refine x_bsl (d := kS) (e := 9) (ps := #[(0, str y2347.1)]) (cells := [str y2347.1]) (xs := [y2347.1]) (fun w => by kernel_rfl) rfl ⟨[str y2347.1], _, rfl, rfl, rfl⟩ hA hS (fun g2389 ac w hS hA => ?_) rfl rfl rfl rfl rfl rfl
      obtain ⟨h2390, hF⟩ := chk_some hF
      have hr := hS.rd 0 rfl
      refine x_app 4 inf9 Tryd.underlying50 hA hS hr.1 hr.2.1 h2390 rfl (fun A2391 n2392 c2393 ac w hS hA => ?_) rfl rfl rfl rfl rfl rfl rfl rfl rfl
      refine x_assign hA (fun ac hA => ?_) rfl rfl rfl rfl rfl
      refine wpList_nil ?_
      refine hKx2345 _ _ ?_
      refine hK2344 _ _ ?_
      refine wp_reg ?_
      obtain ⟨x2394, h2395, hF⟩ := ltt_ hF
      refine x_val (v := .int .u64 x2394) hA (rv_i h2395 (r_add rfl (hA.ev rfl) (hA.ev rfl))) (fun ac hA => ?_) rfl rfl rfl
      refine x_move hA (fun ac hA => ?_) rfl rfl rfl rfl rfl
      refine wpList_nil ?_
      replace hS := hS.drop 1
      replace hS := hS.pk 3
      replace hS := hS.pk 3
      replace hS := hS.pk 3
      cases hF
      exact ⟨_, N2339_ _ rfl, A2385, n2386, c2387, A2391, n2392, c2393, h2388, hA.sub _ rfl, hS⟩
    refine wp_reg ?_
    refine x_move hA (fun ac hA => ?_) rfl rfl rfl rfl rfl
    refine x_move hA (fun ac hA => ?_) rfl rfl rfl rfl rfl
    refine x_len Tryd.underlying50 (hS.rd 3 rfl).2.1 hA (fun ac hA => ?_) rfl rfl rfl rfl rfl
    refine x_val hA (r_eqI rfl (hA.ev rfl) (hA.ev rfl)) (fun ac hA => ?_) rfl rfl rfl
    refine x_move hA (fun ac hA => ?_) rfl rfl rfl rfl rfl
    refine bcase (b := (l2234.length : Int) == 0) (fun hb2396 => ?_) fun hb2396 => ?_
    · replace hF := ift hb2396 hF
      refine x_off hb2396 hA (fun ac hA => ?_) rfl rfl rfl rfl rfl
      refine x_off hb2396 hA (fun ac hA => ?_) rfl rfl rfl rfl rfl
      refine x_off hb2396 hA (fun ac hA => ?_) rfl rfl rfl rfl rfl
      refine x_off hb2396 hA (fun ac hA => ?_) rfl rfl rfl rfl rfl
      refine x_off hb2396 hA (fun ac hA => ?_) rfl rfl rfl rfl rfl
      refine x_off hb2396 hA (fun ac hA => ?_) rfl rfl rfl rfl rfl
      refine x_off hb2396 hA (fun ac hA => ?_) rfl rfl rfl rfl rfl
      refine x_off hb2396 hA (fun ac hA => ?_) rfl rfl rfl rfl rfl
      refine x_pickt hb2396 hA (fun ac hA => ?_) rfl rfl rfl rfl rfl rfl
      replace hS := SH.pure_ h2356 hS
      replace hS := hS.pk 1
      replace hS := obj86_mk (x := y2347.2) hS
      obtain ⟨y2397, h2398, hF⟩ := bnd hF
      rcases y2397 with y2397 | y2397
      rotate_left
      · replace hF := sum_r hF
        refine x_callp (vs := #[.pointer (some ⟨g0, 0, none⟩), .bool true]) en42 hA (RetS.rf (F_column_Reader_Check (L := blk g1 50 [.slice A105 n106 c107] :: own kS 9 A105 n106 c107 a1 :: own kS 9 A2235 n2236 c2237 l2234 :: L) y2347.2 true g0 h2398 (qz + 3) hZ hS)) (fun w hR => ?_) rfl rfl rfl rfl rfl
        replace hS := hR
        obtain ⟨A2399, n2400, c2401, hS⟩ := obj86_open hS
        replace hS := hS.pk 1
        have hQ0 := SH.unpure hS
        clear hS
        obtain ⟨h2402, hS⟩ := hQ0
        replace hS := SH.pure_ h2402 hS
        replace hS := hS.pk 1
        replace hS := obj86_mk (x := y2397) hS
        replace hS := hS.pk 2
        replace hS := hS.pk 2
        replace hS := obj50_mk (x := a1) hS
        replace hS := hS.drop 2
        replace hS := hS.pk 1
        cases hF
        have ht := T2339_ _ rfl
        subst ht
        replace hF := hR2339
        replace hF : some (.inr (y2397, a1)) = some y := hF
        cases hF
        exact hQp _ rfl _ _ hA.defers hS
      replace hF := sum_l hF
      refine x_callw (vs := #[.pointer (some ⟨g0, 0, none⟩), .bool true]) en42 hA (RetS.lf (F_column_Reader_Check (L := blk g1 50 [.slice A105 n106 c107] :: own kS 9 A105 n106 c107 a1 :: own kS 9 A2235 n2236 c2237 l2234 :: L) y2347.2 true g0 h2398 (qz + 3) hZ hS)) (fun v ac w hR hA => ?_) rfl rfl rfl rfl rfl rfl rfl
      obtain ⟨rfl, hS⟩ := hR
      obtain ⟨A2403, n2404, c2405, hS⟩ := obj86_open hS
      replace hS := hS.pk 1
      have hQ0 := SH.unpure hS
      clear hS
      obtain ⟨h2406, hS⟩ := hQ0
      refine wpList_nil ?_
      exact hj2 y2397.f0 hF A2403 n2404 c2405 h2406 ac w (hA.sub _ rfl) hS
    replace hF := iff' hb2396 hF
    refine x_on hb2396 hA ?_ rfl rfl rfl
    refine x_move hA (fun ac hA => ?_) rfl rfl rfl rfl rfl
    refine x_on hb2396 hA ?_ rfl rfl rfl
    refine x_move hA (fun ac hA => ?_) rfl rfl rfl rfl rfl
    refine x_on hb2396 hA ?_ rfl rfl rfl
    refine x_len Tryd.underlying50 (hS.rd 3 rfl).2.1 hA (fun ac hA => ?_) rfl rfl rfl rfl rfl
    refine x_on hb2396 hA ?_ rfl rfl rfl
    obtain ⟨x2407, h2408, hF⟩ := ltt_ hF
    refine x_val (v := .int .i64 x2407) hA (rv_i h2408 (r_sub rfl (hA.ev rfl) (hA.ev rfl))) (fun ac hA => ?_) rfl rfl rfl
    refine x_on hb2396 hA ?_ rfl rfl rfl
    obtain ⟨x2409, h2410, hF⟩ := bnd hF
    refine x_ia Tryd.underlying50 sz9 (hS.rd 3 rfl) h2410 hA (fun ac hA => ?_) rfl rfl rfl rfl rfl rfl
    refine x_on hb2396 hA ?_ rfl rfl rfl
    obtain ⟨cs, hV, hc2411⟩ := el (hS.rd 3 rfl) h2410
    obtain rfl := hV
    refine x_ld Tryd.underlying9 (hc2411 0 _ rfl) hA (fun ac hA => ?_) rfl rfl rfl rfl rfl rfl
    refine x_on hb2396 hA ?_ rfl rfl rfl
    refine x_move hA (fun ac hA => ?_) rfl rfl rfl rfl rfl
    refine x_on hb2396 hA ?_ rfl rfl rfl
    refine x_val hA (r_ltS rfl (hA.ev rfl) (hA.ev rfl)) (fun ac hA => ?_) rfl rfl rfl
    refine x_pickf hb2396 hA (fun ac hA => ?_) rfl rfl rfl rfl rfl rfl
    replace hS := SH.pure_ h2356 hS
    replace hS := hS.pk 1
    replace hS := obj86_mk (x := y2347.2) hS
    obtain ⟨y2412, h2413, hF⟩ := bnd hF
    rcases y2412 with y2412 | y2412
    rotate_left
    · replace hF := sum_r hF
      refine x_callp (vs := #[.pointer (some ⟨g0, 0, none⟩), .bool (Op.bytesLess x2409 y2347.1)]) en42 hA (RetS.rf (F_column_Reader_Check (L := blk g1 50 [.slice A105 n106 c107] :: own kS 9 A105 n106 c107 a1 :: own kS 9 A2235 n2236 c2237 l2234 :: L) y2347.2 (Op.bytesLess x2409 y2347.1) g0 h2413 (qz + 3) hZ hS)) (fun w hR => ?_) rfl rfl rfl rfl rfl
      replace hS := hR
      obtain ⟨A2414, n2415, c2416, hS⟩ := obj86_open hS
      replace hS := hS.pk 1
      have hQ0 := SH.unpure hS
      clear hS
      obtain ⟨h2417, hS⟩ := hQ0
      replace hS := SH.pure_ h2417 hS
      replace hS := hS.pk 1
      replace hS := obj86_mk (x := y2412) hS
      replace hS := hS.pk 2
      replace hS := hS.pk 2
      replace hS := obj50_mk (x := a1) hS
      replace hS := hS.drop 2
      replace hS := hS.pk 1
      cases hF
      have ht := T2339_ _ rfl
      subst ht
      replace hF := hR2339
      replace hF : some (.inr (y2412, a1)) = some y := hF
      cases hF
      exact hQp _ rfl _ _ hA.defers hS
    replace hF := sum_l hF
    refine x_callw (vs := #[.pointer (some ⟨g0, 0, none⟩), .bool (Op.bytesLess x2409 y2347.1)]) en42 hA (RetS.lf (F_column_Reader_Check (L := blk g1 50 [.slice A105 n106 c107] :: own kS 9 A105 n106 c107 a1 :: own kS 9 A2235 n2236 c2237 l2234 :: L) y2347.2 (Op.bytesLess x2409 y2347.1) g0 h2413 (qz + 3) hZ hS)) (fun v ac w hR hA => ?_) rfl rfl rfl rfl rfl rfl rfl
    obtain ⟨rfl, hS⟩ := hR
    obtain ⟨A2418, n2419, c2420, hS⟩ := obj86_open hS
    replace hS := hS.pk 1
    have hQ0 := SH.unpure hS
    clear hS
    obtain ⟨h2421, hS⟩ := hQ0
    refine wpList_nil ?_
    exact hj2 y2412.f0 hF A2418 n2419 c2420 h2421 ac w (hA.sub _ rfl) hS
  replace hF := iff' hb2343 hF
  refine wp_exit ?_
  cases hF
  exact hx2339_0 l2229 l2234 (T2339_ _ rfl) A2230 n2231 c2232 A2235 n2236 c2237 h2233 ac w (hA.sub _ rfl) hS
set_option maxRecDepth 100000 in
set_option maxHeartbeats 4000000 in
theorem F_Try_column_ReadTexts_1 {r : World} {L : List HP} {w : World} {Z : Nat → Prop} {wz : World} (a0 : (List Int)) (a60 : (List (List UInt8))) (A0 : Option Addr) (n0 : Nat) (c0 : Nat) (g60 : Nat) {y : (Bool × (List (List UInt8)))} (hF : Try_column_ReadTexts_1 a0 a60 = some y) (qz : Nat) (hZ : L[qz]? = some (zone Z wz)) (ha0 : Imm Z wz (kI .u8) A0 n0 c0 a0) (hS : SH r (obj50 g60 a60 :: L) w) :
    Ret Tryd.prog 13 #[.slice A0 n0 c0, .func (.func 45) #[] #[.pointer (some ⟨g60, 0, none⟩)]] w fun v w' => v = .bool y.1 ∧ SH r (obj50 g60 y.2 :: L) w' := by
  obtain ⟨y', hy, hF⟩ := bnd hF
  refine Ret.mono_ (try_walk (R := fun v w' => v = .bool y.1 ∧ SH r (obj50 g60 y.2 :: L) w') en45 hS (fun g g4 w1 hS1 => ?_)) (fun v w' h => h)
  replace hS1 := obj86_mk (x := ⟨a0⟩) (hS1.pk 1 |> fun h => (SH.pure_ ha0 (h.pk 1)).pk 1)
  replace hS1 := hS1.pk 1
  replace hS1 := hS1.pk 2
  replace hS1 := hS1.pk 2
  rcases y' with y' | y'
  · replace hF := sum_l hF
    cases hF
    left
    refine Ret.mono_ (RetS.lf (F_column_ReadTexts_1 (L := blk g4 4 [.bool false] :: L) (⟨a0⟩ : S86) a60 g g60 hy (qz + 1) hZ hS1)) ?_
    rintro v w2 ⟨rfl, hS⟩
    replace hS := hS.pk 2
    replace hS := hS.pk 1
    obtain ⟨A', n', c', hS⟩ := obj86_open hS
    have hQ := SH.unpure (hS.pk 1)
    clear hS
    obtain ⟨hi, hS⟩ := hQ
    refine ⟨_, A', n', c', hS, fun w3 h3 => ⟨?_, h3⟩⟩
    rw [← hi.ln]
  · replace hF := sum_r hF
    cases hF
    right
    refine Calls.mono (RetS.rf (F_column_ReadTexts_1 (L := blk g4 4 [.bool false] :: L) (⟨a0⟩ : S86) a60 g g60 hy (qz + 1) hZ hS1)) ?_
    rintro e w2 ⟨rfl, hS⟩
    replace hS := hS.pk 2
    replace hS := hS.drop 1
    exact ⟨rfl, _, hS, fun w3 h3 => ⟨rfl, h3⟩⟩
set_option maxRecDepth 100000 in
set_option maxHeartbeats 4000000 in
theorem F_column_ReadTexts {r : World} {L : List HP} {w : World} {Z : Nat → Prop} {wz : World} (a0 : (List Int)) (A0 : Option Addr) (n0 : Nat) (c0 : Nat) {y : ((List (List UInt8)) × Int)} (hF : column_ReadTexts a0 = some y) (qz : Nat) (hZ : L[qz]? = some (zone Z wz)) (ha0 : Imm Z wz (kI .u8) A0 n0 c0 a0) (hS : SH r (L) w) :
    Ret Tryd.prog 17 #[.slice A0 n0 c0] w fun v w' => ∃ (B0 : Option Addr) (m0 : Nat) (d0 : Nat), v = .tuple #[(.slice B0 m0 d0), (.int .i64 y.2)] ∧ SH r (own kS 9 B0 m0 d0 y.1 :: L) w' := by
  refine enter Tryd.func17 rfl Tryd.ntmps17 [(0, .slice A0 n0 c0)] rfl (by simp) ?_
  intro ac hA Qf hQ hQn
  unfold column_ReadTexts at hF
  refine wp_seq_k fun K101 hK101 => ?_
  refine wp_reg ?_
  refine x_assign hA (fun ac hA => ?_) rfl rfl rfl rfl rfl
  refine x_assign hA (fun ac hA => ?_) rfl rfl rfl rfl rfl
  refine wpList_nil ?_
  refine hK101 _ _ ?_
  refine wp_seq_k fun K102 hK102 => ?_
  refine wp_reg ?_
  refine x_alloc (cs := [.slice none 0 0]) zr50 hA hS (fun g103 ac w hS hA => ?_) rfl rfl rfl rfl rfl
  refine wpList_nil ?_
  refine hK102 _ _ ?_
  refine wp_seq_k fun K104 hK104 => ?_
  refine wp_reg ?_
  refine x_move hA (fun ac hA => ?_) rfl rfl rfl rfl rfl
  refine x_val hA (r_makeFunc rfl (mapev (vals := #[]) hA rfl) (mapev (vals := #[.pointer (some ⟨g103, 0, none⟩)]) hA rfl)) (fun ac hA => ?_) rfl rfl rfl
  replace hS := SH.nil_own (d := kS) (e := 9) hS
  replace hS := hS.pk 1
  replace hS := obj50_mk (x := []) hS
  obtain ⟨y105, h106, hF⟩ := bnd hF
  refine x_call en13 hA (F_Try_column_ReadTexts_1 (L := L) a0 [] A0 n0 c0 g103 h106 (qz + 0) hZ ha0 hS) (fun v ac w hR hA => ?_) rfl rfl rfl rfl rfl
  obtain ⟨rfl, hS⟩ := hR
  obtain ⟨A107, n108, c109, hS⟩ := obj50_open hS
  refine x_assign hA (fun ac hA => ?_) rfl rfl rfl rfl rfl
  refine wpList_nil ?_
  refine hK104 _ _ ?_
  refine wp_seq_k fun K110 hK110 => ?_
  refine wp_seq_k fun K111 hK111 => ?_
  refine wp_reg ?_
  refine x_move hA (fun ac hA => ?_) rfl rfl rfl rfl rfl
  refine x_val hA (r_not rfl (hA.ev rfl)) (fun ac hA => ?_) rfl rfl rfl
  refine wpList_nil ?_
  refine hK111 _ _ ?_
  refine c_if hA rfl (fun hb112 => ?_) fun hb112 => ?_
  · replace hF := ift hb112 hF
    refine wp_seq_k fun K113 hK113 => ?_
    refine wp_reg ?_
    refine x_assign hA (fun ac hA => ?_) rfl rfl rfl rfl rfl
    refine x_assign hA (fun ac hA => ?_) rfl rfl rfl rfl rfl
    refine wpList_nil ?_
    refine hK113 _ _ ?_
    refine wp_ret ?_
    replace hS := SH.nil_own (d := kS) (e := 9) hS
    replace hS := hS.drop 1
    replace hS := hS.drop 1
    cases hF
    refine hQ _ _ ?_
    refine lv2 Tryd.results17 hA rfl rfl ?_
    exact ⟨none, 0, 0, rfl, hS⟩
  replace hF := iff' hb112 hF
  refine wp_skip ?_
  refine hK110 _ _ ?_
  refine wp_seq_k fun K114 hK114 => ?_
  refine wp_reg ?_
  refine x_ld Tryd.underlying50 (hS.cell 0 rfl 0 _ rfl) hA (fun ac hA => ?_) rfl rfl rfl rfl rfl rfl
  refine x_assign hA (fun ac hA => ?_) rfl rfl rfl rfl rfl
  refine x_assign hA (fun ac hA => ?_) rfl rfl rfl rfl rfl
  refine wpList_nil ?_
  refine hK114 _ _ ?_
  refine wp_ret ?_
  replace hS := hS.drop 0
  cases hF
  refine hQ _ _ ?_
  refine lv2 Tryd.results17 hA rfl rfl ?_
  exact ⟨A107, n108, c109, rfl, hS⟩
set_option maxRecDepth 100000 in
set_option maxHeartbeats 4000000 in
theorem F_r03_ReadTexts {r : World} {L : List HP} {w : World} {Z : Nat → Prop} {wz : World} (a0 : (List Int)) (A0 : Option Addr) (n0 : Nat) (c0 : Nat) {y : ((List (List UInt8)) × Bool)} (hF : r03_ReadTexts a0 = some y) (qz : Nat) (hZ : L[qz]? = some (zone Z wz)) (ha0 : Imm Z wz (kI .u8) A0 n0 c0 a0) (hS : SH r (L) w) :
    Ret Tryd.prog 24 #[.slice A0 n0 c0] w fun v w' => ∃ (B0 : Option Addr) (m0 : Nat) (d0 : Nat), v = .tuple #[(.slice B0 m0 d0), (.bool y.2)] ∧ SH r (own kS 9 B0 m0 d0 y.1 :: L) w' := by
  refine enter Tryd.func24 rfl Tryd.ntmps24 [(0, .slice A0 n0 c0)] rfl (by simp) ?_
  intro ac hA Qf hQ hQn
  unfold r03_ReadTexts at hF
  refine wp_seq_k fun K101 hK101 => ?_
  refine wp_reg ?_
  refine x_assign hA (fun ac hA => ?_) rfl rfl rfl rfl rfl
  refine x_assign hA (fun ac hA => ?_) rfl rfl rfl rfl rfl
  refine wpList_nil ?_
  refine hK101 _ _ ?_
  refine wp_seq_k fun K102 hK102 => ?_
  refine wp_reg ?_
  refine x_move hA (fun ac hA => ?_) rfl rfl rfl rfl rfl
  refine x_val (v := .agg #[.slice A0 n0 c0, .int .i64 0]) hA (r_build (ps := #[(0, .slice A0 n0 c0)]) rfl (mapev2 hA rfl) (fun w => by kernel_rfl)) (fun ac hA => ?_) rfl rfl rfl
  refine x_box hA hS (fun g103 ac w hS hA => ?_) rfl rfl rfl rfl rfl rfl
  refine x_assign hA (fun ac hA => ?_) rfl rfl rfl rfl rfl
  refine wpList_nil ?_
  refine hK102 _ _ ?_
  refine wp_seq_k fun K104 hK104 => ?_
  refine wp_reg ?_
  refine x_move hA (fun ac hA => ?_) rfl rfl rfl rfl rfl
  replace hS := SH.pure_ ha0 hS
  replace hS := hS.pk 1
  replace hS := obj63_mk (x := (⟨a0, 0⟩ : S63)) hS
  obtain ⟨y105, h106, hF⟩ := bnd hF
  refine x_call en52 hA (F_r03_Reader_Uint (L := L) (⟨a0, 0⟩ : S63) 4096 g103 h106 (qz + 0) hZ hS) (fun v ac w hR hA => ?_) rfl rfl rfl rfl rfl
  obtain ⟨rfl, hS⟩ := hR
  obtain ⟨A107, n108, c109, hS⟩ := obj63_open hS
  replace hS := hS.pk 1
  have hQ0 := SH.unpure hS
  clear hS
  obtain ⟨h110, hS⟩ := hQ0
  refine x_assign hA (fun ac hA => ?_) rfl rfl rfl rfl rfl
  refine wpList_nil ?_
  refine hK104 _ _ ?_
  refine wp_seq_k fun K111 hK111 => ?_
  refine wp_reg ?_
  refine x_assign hA (fun ac hA => ?_) rfl rfl rfl rfl rfl
  refine wpList_nil ?_
  refine hK111 _ _ ?_
  refine wp_seq_k fun K112 hK112 => ?_
  refine wp_seq_k fun K476 hK476 => ?_
  refine wp_reg ?_
  refine x_assign hA (fun ac hA => ?_) rfl rfl rfl rfl rfl
  refine wpList_nil ?_
  refine hK476 _ _ ?_
  refine wp_block_k fun Kx477 hKx477 => ?_
  have hb1 : ∀ (l653 : (List Int)) (x658 : Int) (l659 : (List (List UInt8))), r03_ReadTexts_b1 a0 l653 x658 l659 = some y → ∀ (A654 : Option Addr) (n655 : Nat) (c656 : Nat) (A660 : Option Addr) (n661 : Nat) (c662 : Nat) (h657 : Imm Z wz (kI .u8) A654 n655 c656 l653) (ac : Act) (w : World), FR 108 [] ac [(0, .slice A0 n0 c0), (4, .pointer (some ⟨g103, 0, none⟩)), (6, .slice A660 n661 c662)] → SH r (blk g103 63 [.slice A654 n655 c656, .int .i64 x658] :: own kS 9 A660 n661 c662 l659 :: L) w → Kx477 ac w := by
    intro l653 x658 l659 hF A654 n655 c656 A660 n661 c662 h657 ac w hA hS
    unfold r03_ReadTexts_b1 at hF
    refine hKx477 _ _ ?_
    refine hK112 _ _ ?_
    refine wp_seq_k fun K663 hK663 => ?_
    refine wp_reg ?_
    refine x_move hA (fun ac hA => ?_) rfl rfl rfl rfl rfl
    replace hS := SH.pure_ h657 hS
    replace hS := hS.pk 1
    replace hS := obj63_mk (x := (⟨l653, x658⟩ : S63)) hS
    obtain ⟨y664, h665, hF⟩ := bnd hF
    refine x_call en53 hA (F_r03_Reader_Ints (L := own kS 9 A660 n661 c662 l659 :: L) (⟨l653, x658⟩ : S63) g103 h665 (qz + 1) hZ hS) (fun v ac w hR hA => ?_) rfl rfl rfl rfl rfl
    obtain ⟨B666, m667, d668, rfl, hS⟩ := hR
    replace hS := hS.pk 1
    obtain ⟨A669, n670, c671, hS⟩ := obj63_open hS
    replace hS := hS.pk 1
    have hQ0 := SH.unpure hS
    clear hS
    obtain ⟨h672, hS⟩ := hQ0
    refine x_assign hA (fun ac hA => ?_) rfl rfl rfl rfl rfl
    refine wpList_nil ?_
    refine hK663 _ _ ?_
    refine wp_seq_k fun K673 hK673 => ?_
    refine wp_seq_k fun K674 hK674 => ?_
    refine wp_reg ?_
    refine x_move hA (fun ac hA => ?_) rfl rfl rfl rfl rfl
    refine x_val hA (r_nilCheck rfl (hA.ev rfl)) (fun ac hA => ?_) rfl rfl rfl
    refine x_fab fa63_1 hA (fun ac hA => ?_) rfl rfl rfl rfl rfl
    refine x_ld Tryd.underlying3 (hS.cell 0 rfl 1 _ rfl) hA (fun ac hA => ?_) rfl rfl rfl rfl rfl rfl
    refine x_move hA (fun ac hA => ?_) rfl rfl rfl rfl rfl
    refine x_len Tryd.underlying22 (hS.rdl 3 (ha0.rdl qz hZ) rfl).2.1 hA (fun ac hA => ?_) rfl rfl rfl rfl rfl
    refine x_val hA (r_neI rfl (hA.ev rfl) (hA.ev rfl)) (fun ac hA => ?_) rfl rfl rfl
    refine wpList_nil ?_
    refine hK674 _ _ ?_
    refine c_if hA rfl (fun hb675 => ?_) fun hb675 => ?_
    · replace hF := ift hb675 hF
      refine wp_seq_k fun K676 hK676 => ?_
      refine wp_reg ?_
      refine x_assign hA (fun ac hA => ?_) rfl rfl rfl rfl rfl
      refine x_assign hA (fun ac hA => ?_) rfl rfl rfl rfl rfl
      refine wpList_nil ?_
      refine hK676 _ _ ?_
      refine wp_ret ?_
      replace hS := SH.nil_own (d := kS) (e := 9) hS
      replace hS := hS.drop 1
      replace hS := hS.drop 1
      replace hS := hS.drop 1
      cases hF
      refine hQ _ _ ?_
      refine lv2 Tryd.results24 hA rfl rfl ?_
      exact ⟨none, 0, 0, rfl, hS⟩
    replace hF := iff' hb675 hF
    refine wp_skip ?_
    refine hK673 _ _ ?_
    refine wp_seq_k fun K677 hK677 => ?_
    refine wp_reg ?_
    refine x_move hA (fun ac hA => ?_) rfl rfl rfl rfl rfl
    refine x_len Tryd.underlying50 (hS.rd 2 rfl).2.1 hA (fun ac hA => ?_) rfl rfl rfl rfl rfl
    obtain ⟨h678, hF⟩ := chk_some hF
    refine x_mks (d := kB) (bytes := 1) false inf4 rfl Tryd.underlying90 h678 hA hS (fun g679 ac w hS hA => ?_) rfl rfl rfl rfl rfl rfl
    refine x_assign hA (fun ac hA => ?_) rfl rfl rfl rfl rfl
    refine wpList_nil ?_
    refine hK677 _ _ ?_
    refine wp_seq_k fun K680 hK680 => ?_
    refine wp_reg ?_
    refine x_assign hA (fun ac hA => ?_) rfl rfl rfl rfl rfl
    refine wpList_nil ?_
    refine hK680 _ _ ?_
    refine wp_seq_k fun K681 hK681 => ?_
    refine wp_seq_k fun K982 hK982 => ?_
    refine wp_reg ?_
    refine x_assign hA (fun ac hA => ?_) rfl rfl rfl rfl rfl
    refine wpList_nil ?_
    refine hK982 _ _ ?_
    refine wp_block_k fun Kx983 hKx983 => ?_
    have hb2 : ∀ (l1130 : (List Bool)) (l1131 : (List (List UInt8))), r03_ReadTexts_b2 l1130 l1131 = some y → ∀ (A1132 : Option Addr) (n1133 : Nat) (c1134 : Nat) (ac : Act) (w : World), FR 108 [] ac [(10, .slice (some ⟨g679, 0, none⟩) ((l659.length : Int).toNat) ((l659.length : Int).toNat)), (11, .slice A1132 n1133 c1134)] → SH r (own kB 4 (some ⟨g679, 0, none⟩) ((l659.length : Int).toNat) ((l659.length : Int).toNat) l1130 :: own kS 9 A1132 n1133 c1134 l1131 :: L) w → Kx983 ac w := by
      intro l1130 l1131 hF A1132 n1133 c1134 ac w hA hS
      unfold r03_ReadTexts_b2 at hF
      refine hKx983 _ _ ?_
      refine hK681 _ _ ?_
      refine wp_seq_k fun K1135 hK1135 => ?_
      refine wp_seq_k fun K1225 hK1225 => ?_
      refine wp_reg ?_
      refine x_assign hA (fun ac hA => ?_) rfl rfl rfl rfl rfl
      refine wpList_nil ?_
      refine hK1225 _ _ ?_
      refine wp_block_k fun Kx1226 hKx1226 => ?_
      have hb3 : r03_ReadTexts_b3 l1131 = some y → ∀ (ac : Act) (w : World), FR 108 [] ac [(11, .slice A1132 n1133 c1134)] → SH r (own kS 9 A1132 n1133 c1134 l1131 :: L) w → Kx1226 ac w := by
        intro hF ac w hA hS
        unfold r03_ReadTexts_b3 at hF
        refine hKx1226 _ _ ?_
        refine hK1135 _ _ ?_
        refine wp_seq_k fun K1270 hK1270 => ?_
        refine wp_reg ?_
        refine x_move hA (fun ac hA => ?_) rfl rfl rfl rfl rfl
        refine x_assign hA (fun ac hA => ?_) rfl rfl rfl rfl rfl
        refine x_assign hA (fun ac hA => ?_) rfl rfl rfl rfl rfl
        refine wpList_nil ?_
        refine hK1270 _ _ ?_
        refine wp_ret ?_
        cases hF
        refine hQ _ _ ?_
        refine lv2 Tryd.results24 hA rfl rfl ?_
        exact ⟨A1132, n1133, c1134, rfl, hS⟩
      obtain ⟨t1299, hl1299, hF⟩ := bnd hF
      have hR1299 := hF
      have hx1299_4 : (.inl ()) = t1299 → ∀ (ac : Act) (w : World), FR 108 [] ac [(11, .slice A1132 n1133 c1134)] → SH r (own kS 9 A1132 n1133 c1134 l1131 :: L) w → Kx1226 ac w := by
        intro ht ac w hA hS
        subst ht
        replace hF : r03_ReadTexts_x1_4 l1131 = some y := hF
        unfold r03_ReadTexts_x1_4 at hF
        exact hb3 hF ac w (hA.sub _ rfl) hS
      refine wp_loop_fn hl1299 (fun s ac w => FR 108 [] ac [(10, .slice (some ⟨g679, 0, none⟩) ((l659.length : Int).toNat) ((l659.length : Int).toNat)), (11, .slice A1132 n1133 c1134), (13, .int .i64 s)] ∧ SH r (own kB 4 (some ⟨g679, 0, none⟩) ((l659.length : Int).toNat) ((l659.length : Int).toNat) l1130 :: own kS 9 A1132 n1133 c1134 l1131 :: L) w) ⟨hA.sub _ rfl, hS⟩ ?_
      intro N1299 s1299 o1299 hF N1299_ T1299_ ac w hLab
      obtain ⟨x1285, rfl⟩ : ∃ q, q = s1299 := ⟨_, rfl⟩
      replace hF : r03_ReadTexts_l1 l1130 x1285 = some o1299 := hF
      unfold r03_ReadTexts_l1 at hF
      try dsimp only at hLab
      obtain ⟨hA, hS⟩ := hLab
      refine wp_seq_k fun K1301 hK1301 => ?_
      refine wp_seq_k fun K1302 hK1302 => ?_
      refine wp_reg ?_
      refine x_move hA (fun ac hA => ?_) rfl rfl rfl rfl rfl
      refine x_move hA (fun ac hA => ?_) rfl rfl rfl rfl rfl
      refine x_len Tryd.underlying90 (hS.rd 0 rfl).2.1 hA (fun ac hA => ?_) rfl rfl rfl rfl rfl
      refine x_val hA (r_ltI rfl (hA.ev rfl) (hA.ev rfl)) (fun ac hA => ?_) rfl rfl rfl
      refine wpList_nil ?_
      refine hK1302 _ _ ?_
      refine c_if hA rfl (fun hb1303 => ?_) fun hb1303 => ?_
      · replace hF := ift hb1303 hF
        refine wp_skip ?_
        refine hK1301 _ _ ?_
        refine wp_seq_k fun K1304 hK1304 => ?_
        refine wp_block_k fun Kx1305 hKx1305 => ?_
        refine wp_seq_k fun K1306 hK1306 => ?_
        refine wp_reg ?_
        refine x_move hA (fun ac hA => ?_) rfl rfl rfl rfl rfl
        refine x_move hA (fun ac hA => ?_) rfl rfl rfl rfl rfl
        obtain ⟨x1307, h1308, hF⟩ := bnd hF
        refine x_ia Tryd.underlying90 sz4 (hS.rd 0 rfl) h1308 hA (fun ac hA => ?_) rfl rfl rfl rfl rfl rfl
        obtain ⟨cs, hV, hc1309⟩ := el (hS.rd 0 rfl) h1308
        obtain rfl := hV
        refine x_ld Tryd.underlying4 (hc1309 0 _ rfl) hA (fun ac hA => ?_) rfl rfl rfl rfl rfl rfl
        refine x_val hA (r_not rfl (hA.ev rfl)) (fun ac hA => ?_) rfl rfl rfl
        refine wpList_nil ?_
        refine hK1306 _ _ ?_
        refine c_if hA rfl (fun hb1310 => ?_) fun hb1310 => ?_
        · replace hF := ift hb1310 hF
          refine wp_seq_k fun K1311 hK1311 => ?_
          refine wp_reg ?_
          refine x_assign hA (fun ac hA => ?_) rfl rfl rfl rfl rfl
          refine x_assign hA (fun ac hA => ?_) rfl rfl rfl rfl rfl
          refine wpList_nil ?_
          refine hK1311 _ _ ?_
          refine wp_ret ?_
          replace hS := SH.nil_own (d := kS) (e := 9) hS
          replace hS := hS.drop 1
          replace hS := hS.drop 1
          cases hF
          have ht := T1299_ _ rfl
          subst ht
          replace hF := hR1299
          replace hF : some ([], false) = some y := hF
          cases hF
          refine hQ _ _ ?_
          refine lv2 Tryd.results24 hA rfl rfl ?_
          exact ⟨none, 0, 0, rfl, hS⟩
        replace hF := iff' hb1310 hF
        refine wp_skip ?_
        refine hKx1305 _ _ ?_
        refine hK1304 _ _ ?_
        refine wp_reg ?_
        refine x_move hA (fun ac hA => ?_) rfl rfl rfl rfl rfl
        obtain ⟨x1312, h1313, hF⟩ := ltt_ hF
        refine x_val (v := .int .i64 x1312) hA (rv_i h1313 (r_add rfl (hA.ev rfl) (hA.ev rfl))) (fun ac hA => ?_) rfl rfl rfl
        refine x_assign hA (fun ac hA => ?_) rfl rfl rfl rfl rfl
        refine wpList_nil ?_
        cases hF
        exact ⟨_, N1299_ _ rfl, hA.sub _ rfl, hS⟩
      replace hF := iff' hb1303 hF
      refine wp_exit ?_
      replace hS := hS.drop 0
      cases hF
      exact hx1299_4 (T1299_ _ rfl) ac w (hA.sub _ rfl) hS
    obtain ⟨t1420, hl1420, hF⟩ := bnd hF
    have hR1420 := hF
    have hx1420_2 : ∀ (l1416 : (List Bool)) (l1417 : (List (List UInt8))), (.inl (l1416, l1417)) = t1420 → ∀ (A1418 : Option Addr) (n1419 : Nat) (c1420 : Nat) (ac : Act) (w : World), FR 108 [] ac [(10, .slice (some ⟨g679, 0, none⟩) ((l659.length : Int).toNat) ((l659.length : Int).toNat)), (11, .slice A1418 n1419 c1420)] → SH r (own kB 4 (some ⟨g679, 0, none⟩) ((l659.length : Int).toNat) ((l659.length : Int).toNat) l1416 :: own kS 9 A1418 n1419 c1420 l1417 :: L) w → Kx983 ac w := by
      intro l1416 l1417 ht A1418 n1419 c1420 ac w hA hS
      subst ht
      replace hF : r03_ReadTexts_x2_2 l1416 l1417 = some y := hF
      unfold r03_ReadTexts_x2_2 at hF
      exact hb2 l1416 l1417 hF A1418 n1419 c1420 ac w (hA.sub _ rfl) hS
    replace hS := SH.nil_own (d := kS) (e := 9) hS
    replace hS := hS.drop 2
    replace hS := hS.pk 1
    replace hS := hS.pk 2
    replace hS := hS.pk 3
    refine wp_loop_fn hl1420 (fun s ac w => ∃ (A1368 : Option Addr) (n1369 : Nat) (c1370 : Nat), FR 108 [] ac [(6, .slice A660 n661 c662), (9, .slice B666 m667 d668), (10, .slice (some ⟨g679, 0, none⟩) ((l659.length : Int).toNat) ((l659.length : Int).toNat)), (11, .slice A1368 n1369 c1370), (12, .int .i64 s.2.2)] ∧ SH r (own kS 9 A660 n661 c662 l659 :: own (kI .i64) 2 B666 m667 d668 y664.1 :: own kB 4 (some ⟨g679, 0, none⟩) ((l659.length : Int).toNat) ((l659.length : Int).toNat) s.1 :: own kS 9 A1368 n1369 c1370 s.2.1 :: L) w) ⟨none, 0, 0, hA.sub _ rfl, hS⟩ ?_
    intro N1420 s1420 o1420 hF N1420_ T1420_ ac w hLab
    obtain ⟨l1366, l1367, x1371⟩ := s1420
    replace hF : r03_ReadTexts_l2 l659 y664 l1366 l1367 x1371 = some o1420 := hF
    unfold r03_ReadTexts_l2 at hF
    try dsimp only at hLab
    obtain ⟨A1368, n1369, c1370, hA, hS⟩ := hLab
    refine wp_seq_k fun K1422 hK1422 => ?_
    refine wp_seq_k fun K1423 hK1423 => ?_
    refine wp_reg ?_
    refine x_move hA (fun ac hA => ?_) rfl rfl rfl rfl rfl
    refine x_move hA (fun ac hA => ?_) rfl rfl rfl rfl rfl
    refine x_len Tryd.underlying47 (hS.rd 1 rfl).2.1 hA (fun ac hA => ?_) rfl rfl rfl rfl rfl
    refine x_val hA (r_ltI rfl (hA.ev rfl) (hA.ev rfl)) (fun ac hA => ?_) rfl rfl rfl
    refine wpList_nil ?_
    refine hK1423 _ _ ?_
    refine c_if hA rfl (fun hb1424 => ?_) fun hb1424 => ?_
    · replace hF := ift hb1424 hF
      refine wp_skip ?_
      refine hK1422 _ _ ?_
      refine wp_seq_k fun K1425 hK1425 => ?_
      refine wp_block_k fun Kx1426 hKx1426 => ?_
      refine wp_seq_k fun K1427 hK1427 => ?_
      refine wp_seq_k fun K1428 hK1428 => ?_
      have hj1 : ∀ (b1434 : Bool), r03_ReadTexts_j1 l659 y664 l1366 l1367 x1371 b1434 = some o1420 → ∀ (ac : Act) (w : World), FR 108 [] ac [(6, .slice A660 n661 c662), (9, .slice B666 m667 d668), (10, .slice (some ⟨g679, 0, none⟩) ((l659.length : Int).toNat) ((l659.length : Int).toNat)), (11, .slice A1368 n1369 c1370), (12, .int .i64 x1371), (79, .bool b1434)] → SH r (own kS 9 A660 n661 c662 l659 :: own (kI .i64) 2 B666 m667 d668 y664.1 :: own kB 4 (some ⟨g679, 0, none⟩) ((l659.length : Int).toNat) ((l659.length : Int).toNat) l1366 :: own kS 9 A1368 n1369 c1370 l1367 :: L) w → K1428 ac w := by
        intro b1434 hF ac w hA hS
        unfold r03_ReadTexts_j1 at hF
        refine hK1428 _ _ ?_
        refine c_if hA rfl (fun hb1435 => ?_) fun hb1435 => ?_
        · replace hF := ift hb1435 hF
          refine wp_seq_k fun K1436 hK1436 => ?_
          refine wp_reg ?_
          refine x_assign hA (fun ac hA => ?_) rfl rfl rfl rfl rfl
          refine x_assign hA (fun ac hA => ?_) rfl rfl rfl rfl rfl
          refine wpList_nil ?_
          refine hK1436 _ _ ?_
          refine wp_ret ?_
          replace hS := SH.nil_own (d := kS) (e := 9) hS
          replace hS := hS.drop 1
          replace hS := hS.drop 1
          replace hS := hS.drop 1
          replace hS := hS.drop 1
          cases hF
          have ht := T1420_ _ rfl
          subst ht
          replace hF := hR1420
          replace hF : some ([], false) = some y := hF
          cases hF
          refine hQ _ _ ?_
          refine lv2 Tryd.results24 hA rfl rfl ?_
          exact ⟨none, 0, 0, rfl, hS⟩
        replace hF := iff' hb1435 hF
        refine wp_skip ?_
        refine hK1427 _ _ ?_
        refine wp_seq_k fun K1437 hK1437 => ?_
        refine wp_reg ?_
        refine x_move hA (fun ac hA => ?_) rfl rfl rfl rfl rfl
        refine x_move hA (fun ac hA => ?_) rfl rfl rfl rfl rfl
        refine x_move hA (fun ac hA => ?_) rfl rfl rfl rfl rfl
        obtain ⟨x1438, h1439, hF⟩ := bnd hF
        refine x_ia Tryd.underlying47 sz2 (hS.rd 1 rfl) h1439 hA (fun ac hA => ?_) rfl rfl rfl rfl rfl rfl
        obtain ⟨cs, hV, hc1440⟩ := el (hS.rd 1 rfl) h1439
        obtain rfl := hV
        refine x_ld Tryd.underlying2 (hc1440 0 _ rfl) hA (fun ac hA => ?_) rfl rfl rfl rfl rfl rfl
        obtain ⟨x1441, h1442, hF⟩ := bnd hF
        refine x_ia Tryd.underlying90 sz4 (hS.rd 2 rfl) h1442 hA (fun ac hA => ?_) rfl rfl rfl rfl rfl rfl
        refine x_sto (z' := true) (off := 0) (vs := [.bool true]) 2 sz4 hA hS rfl (at_some h1442).2.2 (fun c h => by cases h; rfl) (fun  ac w hS hA => ?_) rfl rfl rfl rfl rfl rfl rfl rfl
        refine wpList_nil ?_
        refine hK1437 _ _ ?_
        refine wp_reg ?_
        refine x_move hA (fun ac hA => ?_) rfl rfl rfl rfl rfl
        refine x_move hA (fun ac hA => ?_) rfl rfl rfl rfl rfl
        refine x_move hA (fun ac hA => ?_) rfl rfl rfl rfl rfl
        refine x_move hA (fun ac hA => ?_) rfl rfl rfl rfl rfl
        refine x_ia Tryd.underlying47 sz2 (hS.rd 2 rfl) h1439 hA (fun ac hA => ?_) rfl rfl rfl rfl rfl rfl
        obtain ⟨cs, hV, hc1443⟩ := el (hS.rd 2 rfl) h1439
        obtain rfl := hV
        refine x_ld Tryd.underlying2 (hc1443 0 _ rfl) hA (fun ac hA => ?_) rfl rfl rfl rfl rfl rfl
        obtain ⟨x1444, h1445, hF⟩ := bnd hF
        refine x_ia Tryd.underlying50 sz9 (hS.rd 1 rfl) h1445 hA (fun ac hA => ?_) rfl rfl rfl rfl rfl rfl
        obtain ⟨cs, hV, hc1446⟩ := el (hS.rd 1 rfl) h1445
        obtain rfl := hV
        refine x_ld Tryd.underlying9 (hc1446 0 _ rfl) hA (fun ac hA => ?_) rfl rfl rfl rfl rfl rfl
        refine x_bsl (d := kS) (e := 9) (ps := #[(0, str x1444)]) (cells := [str x1444]) (xs := [x1444]) (fun w => by kernel_rfl) rfl ⟨[str x1444], _, rfl, rfl, rfl⟩ hA hS (fun g1447 ac w hS hA => ?_) rfl rfl rfl rfl rfl rfl
        obtain ⟨h1448, hF⟩ := chk_some hF
        have hr := hS.rd 0 rfl
        refine x_app 4 inf9 Tryd.underlying50 hA hS hr.1 hr.2.1 h1448 rfl (fun A1449 n1450 c1451 ac w hS hA => ?_) rfl rfl rfl rfl rfl rfl rfl rfl rfl
        refine x_assign hA (fun ac hA => ?_) rfl rfl rfl rfl rfl
        refine wpList_nil ?_
        refine hKx1426 _ _ ?_
        refine hK1425 _ _ ?_
        refine wp_reg ?_
        refine x_move hA (fun ac hA => ?_) rfl rfl rfl rfl rfl
        obtain ⟨x1452, h1453, hF⟩ := ltt_ hF
        refine x_val (v := .int .i64 x1452) hA (rv_i h1453 (r_add rfl (hA.ev rfl) (hA.ev rfl))) (fun ac hA => ?_) rfl rfl rfl
        refine x_assign hA (fun ac hA => ?_) rfl rfl rfl rfl rfl
        refine wpList_nil ?_
        replace hS := hS.drop 1
        replace hS := hS.pk 1
        replace hS := hS.pk 3
        replace hS := hS.pk 3
        cases hF
        exact ⟨_, N1420_ _ rfl, A1449, n1450, c1451, hA.sub _ rfl, hS⟩
      refine wp_reg ?_
      refine x_move hA (fun ac hA => ?_) rfl rfl rfl rfl rfl
      refine x_move hA (fun ac hA => ?_) rfl rfl rfl rfl rfl
      obtain ⟨x1454, h1455, hF⟩ := bnd hF
      refine x_ia Tryd.underlying47 sz2 (hS.rd 1 rfl) h1455 hA (fun ac hA => ?_) rfl rfl rfl rfl rfl rfl
      obtain ⟨cs, hV, hc1456⟩ := el (hS.rd 1 rfl) h1455
      obtain rfl := hV
      refine x_ld Tryd.underlying2 (hc1456 0 _ rfl) hA (fun ac hA => ?_) rfl rfl rfl rfl rfl rfl
      refine x_val hA (r_ltI rfl (hA.ev rfl) (hA.ev rfl)) (fun ac hA => ?_) rfl rfl rfl
      refine x_move hA (fun ac hA => ?_) rfl rfl rfl rfl rfl
      refine bcase (b := decide (x1454 < 0)) (fun hb1457 => ?_) fun hb1457 => ?_
      · replace hF := ift hb1457 hF
        refine x_off hb1457 hA (fun ac hA => ?_) rfl rfl rfl rfl rfl
        refine x_off hb1457 hA (fun ac hA => ?_) rfl rfl rfl rfl rfl
        refine x_off hb1457 hA (fun ac hA => ?_) rfl rfl rfl rfl rfl
        refine x_off hb1457 hA (fun ac hA => ?_) rfl rfl rfl rfl rfl
        refine x_off hb1457 hA (fun ac hA => ?_) rfl rfl rfl rfl rfl
        refine x_off hb1457 hA (fun ac hA => ?_) rfl rfl rfl rfl rfl
        refine x_off hb1457 hA (fun ac hA => ?_) rfl rfl rfl rfl rfl
        refine x_pickt hb1457 hA (fun ac hA => ?_) rfl rfl rfl rfl rfl rfl
        refine wpList_nil ?_
        exact hj1 true hF ac w (hA.sub _ rfl) hS
      replace hF := iff' hb1457 hF
      refine x_on hb1457 hA ?_ rfl rfl rfl
      refine x_move hA (fun ac hA => ?_) rfl rfl rfl rfl rfl
      refine x_on hb1457 hA ?_ rfl rfl rfl
      refine x_move hA (fun ac hA => ?_) rfl rfl rfl rfl rfl
      refine x_on hb1457 hA ?_ rfl rfl rfl
      refine x_ia Tryd.underlying47 sz2 (hS.rd 1 rfl) h1455 hA (fun ac hA => ?_) rfl rfl rfl rfl rfl rfl
      refine x_on hb1457 hA ?_ rfl rfl rfl
      obtain ⟨cs, hV, hc1458⟩ := el (hS.rd 1 rfl) h1455
      obtain rfl := hV
      refine x_ld Tryd.underlying2 (hc1458 0 _ rfl) hA (fun ac hA => ?_) rfl rfl rfl rfl rfl rfl
      refine x_on hb1457 hA ?_ rfl rfl rfl
      refine x_move hA (fun ac hA => ?_) rfl rfl rfl rfl rfl
      refine x_on hb1457 hA ?_ rfl rfl rfl
      refine x_len Tryd.underlying50 (hS.rd 0 rfl).2.1 hA (fun ac hA => ?_) rfl rfl rfl rfl rfl
      refine x_on hb1457 hA ?_ rfl rfl rfl
      refine x_val hA (r_geI rfl (hA.ev rfl) (hA.ev rfl)) (fun ac hA => ?_) rfl rfl rfl
      refine x_pickf hb1457 hA (fun ac hA => ?_) rfl rfl rfl rfl rfl rfl
      refine wpList_nil ?_
      exact hj1 (decide ((l659.length : Int) ≤ x1454)) hF ac w (hA.sub _ rfl) hS
    replace hF := iff' hb1424 hF
    refine wp_exit ?_
    replace hS := hS.drop 0
    replace hS := hS.drop 0
    cases hF
    exact hx1420_2 l1366 l1367 (T1420_ _ rfl) A1368 n1369 c1370 ac w (hA.sub _ rfl) hS
  obtain ⟨t1591, hl1591, hF⟩ := bnd hF
  have hR1591 := hF
  have hx1591_0 : ∀ (l1582 : (List Int)) (x1587 : Int) (l1588 : (List (List UInt8))), (.inl (l1582, x1587, l1588)) = t1591 → ∀ (A1583 : Option Addr) (n1584 : Nat) (c1585 : Nat) (A1589 : Option Addr) (n1590 : Nat) (c1591 : Nat) (h1586 : Imm Z wz (kI .u8) A1583 n1584 c1585 l1582) (ac : Act) (w : World), FR 108 [] ac [(0, .slice A0 n0 c0), (4, .pointer (some ⟨g103, 0, none⟩)), (6, .slice A1589 n1590 c1591)] → SH r (blk g103 63 [.slice A1583 n1584 c1585, .int .i64 x1587] :: own kS 9 A1589 n1590 c1591 l1588 :: L) w → Kx477 ac w := by
    intro l1582 x1587 l1588 ht A1583 n1584 c1585 A1589 n1590 c1591 h1586 ac w hA hS
    subst ht
    replace hF : r03_ReadTexts_x3_0 a0 l1582 x1587 l1588 = some y := hF
    unfold r03_ReadTexts_x3_0 at hF
    exact hb1 l1582 x1587 l1588 hF A1583 n1584 c1585 A1589 n1590 c1591 h1586 ac w (hA.sub _ rfl) hS
  replace hS := SH.nil_own (d := kS) (e := 9) hS
  replace hS := hS.pk 1
  refine wp_loop_fn hl1591 (fun s ac w => ∃ (A1520 : Option Addr) (n1521 : Nat) (c1522 : Nat) (A1526 : Option Addr) (n1527 : Nat) (c1528 : Nat), Imm Z wz (kI .u8) A1520 n1521 c1522 s.1 ∧ FR 108 [] ac [(0, .slice A0 n0 c0), (4, .pointer (some ⟨g103, 0, none⟩)), (5, .int .u64 y105.1), (6, .slice A1526 n1527 c1528), (7, .int .u64 s.2.2.2)] ∧ SH r (blk g103 63 [.slice A1520 n1521 c1522, .int .i64 s.2.1] :: own kS 9 A1526 n1527 c1528 s.2.2.1 :: L) w) ⟨A107, n108, c109, none, 0, 0, h110, hA.sub _ rfl, hS⟩ ?_
  intro N1591 s1591 o1591 hF N1591_ T1591_ ac w hLab
  obtain ⟨l1519, x1524, l1525, x1529⟩ := s1591
  replace hF : r03_ReadTexts_l3 y105 l1519 x1524 l1525 x1529 = some o1591 := hF
  unfold r03_ReadTexts_l3 at hF
  try dsimp only at hLab
  obtain ⟨A1520, n1521, c1522, A1526, n1527, c1528, h1523, hA, hS⟩ := hLab
  refine wp_seq_k fun K1593 hK1593 => ?_
  refine wp_seq_k fun K1594 hK1594 => ?_
  have hj2 : ∀ (b1596 : Bool), r03_ReadTexts_j2 l1519 x1524 l1525 x1529 b1596 = some o1591 → ∀ (ac : Act) (w : World), FR 108 [] ac [(0, .slice A0 n0 c0), (4, .pointer (some ⟨g103, 0, none⟩)), (5, .int .u64 y105.1), (6, .slice A1526 n1527 c1528), (7, .int .u64 x1529), (28, .bool b1596)] → SH r (blk g103 63 [.slice A1520 n1521 c1522, .int .i64 x1524] :: own kS 9 A1526 n1527 c1528 l1525 :: L) w → K1594 ac w := by
    intro b1596 hF ac w hA hS
    unfold r03_ReadTexts_j2 at hF
    refine hK1594 _ _ ?_
    refine c_if hA rfl (fun hb1597 => ?_) fun hb1597 => ?_
    · replace hF := ift hb1597 hF
      refine wp_skip ?_
      refine hK1593 _ _ ?_
      refine wp_seq_k fun K1598 hK1598 => ?_
      refine wp_block_k fun Kx1599 hKx1599 => ?_
      refine wp_seq_k fun K1600 hK1600 => ?_
      refine wp_reg ?_
      refine x_move hA (fun ac hA => ?_) rfl rfl rfl rfl rfl
      replace hS := SH.pure_ h1523 hS
      replace hS := hS.pk 1
      replace hS := obj63_mk (x := (⟨l1519, x1524⟩ : S63)) hS
      obtain ⟨y1601, h1602, hF⟩ := bnd hF
      refine x_call en22 hA (F_r03_Reader_Text (L := own kS 9 A1526 n1527 c1528 l1525 :: L) (⟨l1519, x1524⟩ : S63) 32 g103 h1602 (qz + 1) hZ hS) (fun v ac w hR hA => ?_) rfl rfl rfl rfl rfl
      obtain ⟨rfl, hS⟩ := hR
      obtain ⟨A1603, n1604, c1605, hS⟩ := obj63_open hS
      replace hS := hS.pk 1
      have hQ0 := SH.unpure hS
      clear hS
      obtain ⟨h1606, hS⟩ := hQ0
      refine x_assign hA (fun ac hA => ?_) rfl rfl rfl rfl rfl
      refine wpList_nil ?_
      refine hK1600 _ _ ?_
      refine wp_seq_k fun K1607 hK1607 => ?_
      refine wp_seq_k fun K1608 hK1608 => ?_
      have hj3 : ∀ (b1615 : Bool), r03_ReadTexts_j3 l1525 x1529 y1601 b1615 = some o1591 → ∀ (ac : Act) (w : World), FR 108 [] ac [(0, .slice A0 n0 c0), (4, .pointer (some ⟨g103, 0, none⟩)), (5, .int .u64 y105.1), (6, .slice A1526 n1527 c1528), (7, .int .u64 x1529), (8, str y1601.1), (43, .bool b1615)] → SH r (blk g103 63 [.slice A1603 n1604 c1605, .int .i64 y1601.2.f1] :: own kS 9 A1526 n1527 c1528 l1525 :: L) w → K1608 ac w := by
        intro b1615 hF ac w hA hS
        unfold r03_ReadTexts_j3 at hF
        refine hK1608 _ _ ?_
        refine c_if hA rfl (fun hb1616 => ?_) fun hb1616 => ?_
        · replace hF := ift hb1616 hF
          refine wp_seq_k fun K1617 hK1617 => ?_
          refine wp_reg ?_
          refine x_assign hA (fun ac hA => ?_) rfl rfl rfl rfl rfl
          refine x_assign hA (fun ac hA => ?_) rfl rfl rfl rfl rfl
          refine wpList_nil ?_
          refine hK1617 _ _ ?_
          refine wp_ret ?_
          replace hS := SH.nil_own (d := kS) (e := 9) hS
          replace hS := hS.drop 1
          replace hS := hS.drop 1
          cases hF
          have ht := T1591_ _ rfl
          subst ht
          replace hF := hR1591
          replace hF : some ([], false) = some y := hF
          cases hF
          refine hQ _ _ ?_
          refine lv2 Tryd.results24 hA rfl rfl ?_
          exact ⟨none, 0, 0, rfl, hS⟩
        replace hF := iff' hb1616 hF
        refine wp_skip ?_
        refine hK1607 _ _ ?_
        refine wp_reg ?_
        refine x_move hA (fun ac hA => ?_) rfl rfl rfl rfl rfl
        refine x_move hA (fun ac hA => ?_) rfl rfl rfl rfl rfl
        refine x_bsl (d := kS) (e := 9) (ps := #[(0, str y1601.1)]) (cells := [str y1601.1]) (xs := [y1601.1]) (fun w => by kernel_rfl) rfl ⟨[str y1601.1], _, rfl, rfl, rfl⟩ hA hS (fun g1618 ac w hS hA => ?_) rfl rfl rfl rfl rfl rfl
        obtain ⟨h1619, hF⟩ := chk_some hF
        have hr := hS.rd 0 rfl
        refine x_app 2 inf9 Tryd.underlying50 hA hS hr.1 hr.2.1 h1619 rfl (fun A1620 n1621 c1622 ac w hS hA => ?_) rfl rfl rfl rfl rfl rfl rfl rfl rfl
        refine x_assign hA (fun ac hA => ?_) rfl rfl rfl rfl rfl
        refine wpList_nil ?_
        refine hKx1599 _ _ ?_
        refine hK1598 _ _ ?_
        refine wp_reg ?_
        refine x_move hA (fun ac hA => ?_) rfl rfl rfl rfl rfl
        obtain ⟨x1623, h1624, hF⟩ := ltt_ hF
        refine x_val (v := .int .u64 x1623) hA (rv_i h1624 (r_add rfl (hA.ev rfl) (hA.ev rfl))) (fun ac hA => ?_) rfl rfl rfl
        refine x_assign hA (fun ac hA => ?_) rfl rfl rfl rfl rfl
        refine wpList_nil ?_
        replace hS := hS.drop 1
        replace hS := hS.pk 1
        cases hF
        exact ⟨_, N1591_ _ rfl, A1603, n1604, c1605, A1620, n1621, c1622, h1606, hA.sub _ rfl, hS⟩
      refine wp_reg ?_
      refine x_move hA (fun ac hA => ?_) rfl rfl rfl rfl rfl
      refine x_val hA (r_gtI rfl (hA.ev rfl) (hA.ev rfl)) (fun ac hA => ?_) rfl rfl rfl
      refine x_move hA (fun ac hA => ?_) rfl rfl rfl rfl rfl
      refine bcase (b := decide (0 < x1529)) (fun hb1625 => ?_) fun hb1625 => ?_
      · replace hF := ift hb1625 hF
        refine x_on hb1625 hA ?_ rfl rfl rfl
        refine x_move hA (fun ac hA => ?_) rfl rfl rfl rfl rfl
        refine x_on hb1625 hA ?_ rfl rfl rfl
        refine x_move hA (fun ac hA => ?_) rfl rfl rfl rfl rfl
        refine x_on hb1625 hA ?_ rfl rfl rfl
        obtain ⟨x1626, h1627, hF⟩ := ltt_ hF
        refine x_val (v := .int .u64 x1626) hA (rv_i h1627 (r_sub rfl (hA.ev rfl) (hA.ev rfl))) (fun ac hA => ?_) rfl rfl rfl
        refine x_on hb1625 hA ?_ rfl rfl rfl
        obtain ⟨x1628, h1629, hF⟩ := bnd hF
        refine x_ia Tryd.underlying50 sz9 (hS.rd 1 rfl) h1629 hA (fun ac hA => ?_) rfl rfl rfl rfl rfl rfl
        refine x_on hb1625 hA ?_ rfl rfl rfl
        obtain ⟨cs, hV, hc1630⟩ := el (hS.rd 1 rfl) h1629
        obtain rfl := hV
        refine x_ld Tryd.underlying9 (hc1630 0 _ rfl) hA (fun ac hA => ?_) rfl rfl rfl rfl rfl rfl
        refine x_on hb1625 hA ?_ rfl rfl rfl
        refine x_move hA (fun ac hA => ?_) rfl rfl rfl rfl rfl
        refine x_on hb1625 hA ?_ rfl rfl rfl
        refine x_val hA (r_geS rfl (hA.ev rfl) (hA.ev rfl)) (fun ac hA => ?_) rfl rfl rfl
        refine x_pickt hb1625 hA (fun ac hA => ?_) rfl rfl rfl rfl rfl rfl
        refine wpList_nil ?_
        exact hj3 (!Op.bytesLess x1628 y1601.1) hF ac w (hA.sub _ rfl) hS
      replace hF := iff' hb1625 hF
      refine x_off hb1625 hA (fun ac hA => ?_) rfl rfl rfl rfl rfl
      refine x_off hb1625 hA (fun ac hA => ?_) rfl rfl rfl rfl rfl
      refine x_off hb1625 hA (fun ac hA => ?_) rfl rfl rfl rfl rfl
      refine x_off hb1625 hA (fun ac hA => ?_) rfl rfl rfl rfl rfl
      refine x_off hb1625 hA (fun ac hA => ?_) rfl rfl rfl rfl rfl
      refine x_off hb1625 hA (fun ac hA => ?_) rfl rfl rfl rfl rfl
      refine x_off hb1625 hA (fun ac hA => ?_) rfl rfl rfl rfl rfl
      refine x_pickf hb1625 hA (fun ac hA => ?_) rfl rfl rfl rfl rfl rfl
      refine wpList_nil ?_
      exact hj3 false hF ac w (hA.sub _ rfl) hS
    replace hF := iff' hb1597 hF
    refine wp_exit ?_
    cases hF
    exact hx1591_0 l1519 x1524 l1525 (T1591_ _ rfl) A1520 n1521 c1522 A1526 n1527 c1528 h1523 ac w (hA.sub _ rfl) hS
  refine wp_reg ?_
  refine x_move hA (fun ac hA => ?_) rfl rfl rfl rfl rfl
  refine x_move hA (fun ac hA => ?_) rfl rfl rfl rfl rfl
  refine x_val hA (r_ltI rfl (hA.ev rfl) (hA.ev rfl)) (fun ac hA => ?_) rfl rfl rfl
  refine x_move hA (fun ac hA => ?_) rfl rfl rfl rfl rfl
  refine bcase (b := decide (x1529 < y105.1)) (fun hb1631 => ?_) fun hb1631 => ?_
  · replace hF := ift hb1631 hF
    refine x_on hb1631 hA ?_ rfl rfl rfl
    refine x_move hA (fun ac hA => ?_) rfl rfl rfl rfl rfl
    refine x_on hb1631 hA ?_ rfl rfl rfl
    refine x_val hA (r_nilCheck rfl (hA.ev rfl)) (fun ac hA => ?_) rfl rfl rfl
    refine x_on hb1631 hA ?_ rfl rfl rfl
    refine x_fab fa63_1 hA (fun ac hA => ?_) rfl rfl rfl rfl rfl
    refine x_on hb1631 hA ?_ rfl rfl rfl
    refine x_ld Tryd.underlying3 (hS.cell 0 rfl 1 _ rfl) hA (fun ac hA => ?_) rfl rfl rfl rfl rfl rfl
    refine x_on hb1631 hA ?_ rfl rfl rfl
    refine x_val hA (r_geI rfl (hA.ev rfl) (hA.ev rfl)) (fun ac hA => ?_) rfl rfl rfl
    refine x_pickt hb1631 hA (fun ac hA => ?_) rfl rfl rfl rfl rfl rfl
    refine wpList_nil ?_
    exact hj2 (decide (0 ≤ x1524)) hF ac w (hA.sub _ rfl) hS
  replace hF := iff' hb1631 hF
  refine x_off hb1631 hA (fun ac hA => ?_) rfl rfl rfl rfl rfl
  refine x_off hb1631 hA (fun ac hA => ?_) rfl rfl rfl rfl rfl
  refine x_off hb1631 hA (fun ac hA => ?_) rfl rfl rfl rfl rfl
  refine x_off hb1631 hA (fun ac hA => ?_) rfl rfl rfl rfl rfl
  refine x_off hb1631 hA (fun ac hA => ?_) rfl rfl rfl rfl rfl
  refine x_pickf hb1631 hA (fun ac hA => ?_) rfl rfl rfl rfl rfl rfl
  refine wpList_nil ?_
  exact hj2 false hF ac w (hA.sub _ rfl) hS
end Go.Proofs.YthokgnonmcgkcaaDoor.M
namespace Go.Proofs.YthokgnonmcgkcaaDoor.M
open Go Go.RowKit Go.Proofs.YthokgnonmcgkcaaDoor.E
set_option linter.unusedVariables false
set_option linter.unusedSimpArgs false
noncomputable def slices_Index_api_Errno_api_Errno_b1 : Option (Int) :=
  some (-1)
noncomputable def slices_Index_api_Errno_api_Errno_x1_0 : Option (Int) :=
  slices_Index_api_Errno_api_Errno_b1
noncomputable def slices_Index_api_Errno_api_Errno_l1 (a0 : (List Int)) (a1 : Int) (x262 : Int) : Option ((Int) ⊕ ((Unit) ⊕ (Int))) :=
  if (decide (x262 < (a0.length : Int))) = true then ((at_ a0 x262).bind fun x286 => (if (a1 == x286) = true then (some (.inr (.inr x262))) else (ltt (IntKind.i64.wrap (x262 + 1)) fun x291 => (some (.inl (x291)))))) else (some (.inr (.inl ())))
noncomputable def slices_Index_api_Errno_api_Errno (a0 : (List Int)) (a1 : Int) : Option (Int) :=
  (loop (fun s => slices_Index_api_Errno_api_Errno_l1 a0 a1 s) (0)).bind fun t => match t with | (.inl t) => slices_Index_api_Errno_api_Errno_x1_0 | (.inr t) => some t
noncomputable def slices_Contains_api_Errno_api_Errno (a0 : (List Int)) (a1 : Int) : Option (Bool) :=
  (slices_Index_api_Errno_api_Errno a0 a1).bind fun y103 => (some (decide (0 ≤ y103)))
noncomputable def event_Form (a0 : S39) (a1 : Int) : Option (Bool) :=
  if (decide (0 ≤ a0.f1)) = true then (if (decide (a0.f1 < a1)) = true then (if (decide (-1099511627776 ≤ a0.f2)) = true then (if (decide (a0.f2 ≤ 1099511627776)) = true then (if (decide ((a0.f3.length : Int) ≤ 32)) = true then (some (decide (a0.f0 < 1099511627776))) else (some false)) else (some false)) else (some false)) else (some false)) else (some false)
noncomputable def r06_Form (a0 : S39) (a1 : Int) : Option (Bool) :=
  if (decide (0 ≤ a0.f1)) = true then (if (decide (a0.f1 < a1)) = true then (if (decide (-1099511627776 ≤ a0.f2)) = true then (if (decide (a0.f2 ≤ 1099511627776)) = true then (if (decide ((a0.f3.length : Int) ≤ 32)) = true then (some (decide (a0.f0 < 1099511627776))) else (some false)) else (some false)) else (some false)) else (some false)) else (some false)
noncomputable def r06_Same (a0 : S39) (a1 : S39) : Option (Bool) :=
  if (a0.f0 == a1.f0) = true then (if (a0.f1 == a1.f1) = true then (if (a0.f2 == a1.f2) = true then (if (a0.f3 == a1.f3) = true then ((r01_Same a0.f4 a1.f4).bind fun y109 => (some y109)) else (some false)) else (some false)) else (some false)) else (some false)
noncomputable def r06_SameAll_b1 : Option (Bool) :=
  some true
noncomputable def r06_SameAll_x1_0 : Option (Bool) :=
  r06_SameAll_b1
noncomputable def r06_SameAll_l1 (a0 : (List S39)) (a1 : (List S39)) (x286 : Int) : Option ((Int) ⊕ ((Unit) ⊕ (Bool))) :=
  if (decide (x286 < (a0.length : Int))) = true then ((at_ a0 x286).bind fun x311 => ((at_ a1 x286).bind fun x314 => ((r06_Same x311 x314).bind fun y317 => (if (!y317) = true then (some (.inr (.inr false))) else (some (.inl (IntKind.i64.wrap (x286 + 1)))))))) else (some (.inr (.inl ())))
noncomputable def r06_SameAll (a0 : (List S39)) (a1 : (List S39)) : Option (Bool) :=
  if ((a0.length : Int) != (a1.length : Int)) = true then (some false) else ((loop (fun s => r06_SameAll_l1 a0 a1 s) (0)).bind fun t => match t with | (.inl t) => r06_SameAll_x1_0 | (.inr t) => some t)
noncomputable def r06_Read_b2 (y103 : (Int × (List Int) × Int × Int)) (l1047 : (List S39)) : Option ((List S39) × Int × Int) :=
  some (l1047, y103.2.2.1, 0)
noncomputable def r06_Read_x1_2 (y103 : (Int × (List Int) × Int × Int)) (l1159 : (List S39)) : Option ((List S39) × Int × Int) :=
  r06_Read_b2 y103 l1159
noncomputable def r06_Read_l1 (a2 : Int) (y478 : ((List Int) × Bool)) (y496 : ((List Int) × Bool)) (y515 : ((List Int) × Bool)) (y535 : ((List (List UInt8)) × Bool)) (y556 : ((List Nat) × Bool)) (l1107 : (List S39)) (x1111 : Int) : Option (((List S39) × Int) ⊕ (((List S39)) ⊕ ((List S39) × Int × Int))) :=
  if (decide (x1111 < (y478.1.length : Int))) = true then ((at_ y478.1 x1111).bind fun x1170 => (ltt (IntKind.u64.wrap x1170) fun x1173 => ((at_ y496.1 x1111).bind fun x1175 => ((at_ y515.1 x1111).bind fun x1178 => ((at_ y535.1 x1111).bind fun x1181 => ((at_ y556.1 x1111).bind fun x1184 => ((r06_Form (⟨x1173, x1175, x1178, x1181, x1184⟩ : S39) a2).bind fun y1195 => (if (!y1195) = true then (some (.inr (.inr ([], 0, 3)))) else (chk (l1107.length + [(⟨x1173, x1175, x1178, x1181, x1184⟩ : S39)].length ≤ 140737488355328 / 48) (ltt (IntKind.i64.wrap (x1111 + 1)) fun x1204 => (some (.inl (l1107 ++ [(⟨x1173, x1175, x1178, x1181, x1184⟩ : S39)], x1204))))))))))))) else (some (.inr (.inl (l1107))))
noncomputable def r06_Read_j2 (a2 : Int) (y103 : (Int × (List Int) × Int × Int)) (y478 : ((List Int) × Bool)) (y496 : ((List Int) × Bool)) (y515 : ((List Int) × Bool)) (y535 : ((List (List UInt8)) × Bool)) (y556 : ((List Nat) × Bool)) (b571 : Bool) : Option ((List S39) × Int × Int) :=
  if b571 = true then (some ([], 0, 3)) else ((loop (fun s => r06_Read_l1 a2 y478 y496 y515 y535 y556 s.1 s.2) ([], 0)).bind fun t => match t with | (.inl t) => r06_Read_x1_2 y103 t | (.inr t) => some t)
noncomputable def r06_Read_j1 (a2 : Int) (y103 : (Int × (List Int) × Int × Int)) (l456 : (List (List UInt8))) (b463 : Bool) : Option ((List S39) × Int × Int) :=
  if b463 = true then (some ([], 0, 3)) else ((at_ l456 0).bind fun x467 => (chk (x467.length ≤ maxLen) ((r03_ReadInts (stb x467)).bind fun y478 => ((at_ l456 1).bind fun x484 => (chk (x484.length ≤ maxLen) ((r03_ReadInts (stb x484)).bind fun y496 => ((at_ l456 2).bind fun x502 => (chk (x502.length ≤ maxLen) ((r03_ReadInts (stb x502)).bind fun y515 => ((at_ l456 3).bind fun x521 => (chk (x521.length ≤ maxLen) ((r03_ReadTexts (stb x521)).bind fun y535 => ((at_ l456 4).bind fun x541 => (chk (x541.length ≤ maxLen) ((r03_ReadReals (stb x541)).bind fun y556 => (if (!y478.2) = true then (r06_Read_j2 a2 y103 y478 y496 y515 y535 y556 true) else (if (!y496.2) = true then (r06_Read_j2 a2 y103 y478 y496 y515 y535 y556 true) else (if (!y515.2) = true then (r06_Read_j2 a2 y103 y478 y496 y515 y535 y556 true) else (if (!y535.2) = true then (r06_Read_j2 a2 y103 y478 y496 y515 y535 y556 true) else (if (!y556.2) = true then (r06_Read_j2 a2 y103 y478 y496 y515 y535 y556 true) else (if ((y496.1.length : Int) != (y478.1.length : Int)) = true then (r06_Read_j2 a2 y103 y478 y496 y515 y535 y556 true) else (if ((y515.1.length : Int) != (y478.1.length : Int)) = true then (r06_Read_j2 a2 y103 y478 y496 y515 y535 y556 true) else (if ((y535.1.length : Int) != (y478.1.length : Int)) = true then (r06_Read_j2 a2 y103 y478 y496 y515 y535 y556 true) else (r06_Read_j2 a2 y103 y478 y496 y515 y535 y556 ((y556.1.length : Int) != (y478.1.length : Int))))))))))))))))))))))))))
noncomputable def r06_Read_b1 (a2 : Int) (y103 : (Int × (List Int) × Int × Int)) (l450 : (List Int)) (x455 : Int) (l456 : (List (List UInt8))) : Option ((List S39) × Int × Int) :=
  if (y103.1 != 101) = true then (r06_Read_j1 a2 y103 l456 true) else (r06_Read_j1 a2 y103 l456 (x455 != (y103.2.1.length : Int)))
noncomputable def r06_Read_x2_0 (a2 : Int) (y103 : (Int × (List Int) × Int × Int)) (l1292 : (List Int)) (x1297 : Int) (l1298 : (List (List UInt8))) : Option ((List S39) × Int × Int) :=
  r06_Read_b1 a2 y103 l1292 x1297 l1298
noncomputable def r06_Read_l2 (l1252 : (List Int)) (x1257 : Int) (l1258 : (List (List UInt8))) (x1262 : Int) : Option (((List Int) × Int × (List (List UInt8)) × Int) ⊕ (((List Int) × Int × (List (List UInt8))))) :=
  if (decide (x1262 < 5)) = true then ((r03_Reader_Text (⟨l1252, x1257⟩ : S63) 1048576).bind fun y1308 => (chk (l1258.length + [y1308.1].length ≤ 140737488355328 / 16) (ltt (IntKind.i64.wrap (x1262 + 1)) fun x1319 => (some (.inl (y1308.2.f0, y1308.2.f1, l1258 ++ [y1308.1], x1319)))))) else (some (.inr (l1252, x1257, l1258)))
noncomputable def r06_Read (a0 : (List Int)) (a1 : Int) (a2 : Int) : Option ((List S39) × Int × Int) :=
  (r04_Read a0 a1).bind fun y103 => (if (y103.2.2.2 != 0) = true then (some ([], 0, y103.2.2.2)) else ((loop (fun s => r06_Read_l2 s.1 s.2.1 s.2.2.1 s.2.2.2) (y103.2.1, 0, [], 0)).bind fun t => r06_Read_x2_0 a2 y103 t.1 t.2.1 t.2.2))
noncomputable def event_Read_1_b1 (l237 : (List Int)) (l242 : (List (List Int))) : Option ((S86 × (List (List Int))) ⊕ (S86 × (List (List Int)))) :=
  some (.inl ((⟨l237⟩ : S86), l242))
noncomputable def event_Read_1_x1_0 (l334 : (List Int)) (l339 : (List (List Int))) : Option ((S86 × (List (List Int))) ⊕ (S86 × (List (List Int)))) :=
  event_Read_1_b1 l334 l339
noncomputable def event_Read_1_l1 (l285 : (List Int)) (l290 : (List (List Int))) (x291 : Int) : Option (((List Int) × (List (List Int)) × Int) ⊕ (((List Int) × (List (List Int))) ⊕ ((S86 × (List (List Int))) ⊕ (S86 × (List (List Int)))))) :=
  if (decide (x291 < 5)) = true then ((column_Reader_Text (⟨l285⟩ : S86) 1048576).bind fun y347 => (sum_ y347 (fun y347 => (chk (y347.1.length ≤ maxLen) ((at_ l290 x291).bind fun x361 => (ltt (IntKind.i64.wrap (x291 + 1)) fun x368 => (some (.inl (y347.2.f0, l290.set x291.toNat (stb y347.1), x368))))))) (fun y347 => (some (.inr (.inr (.inr (y347, l290)))))))) else (some (.inr (.inl (l285, l290))))
noncomputable def event_Read_1 (a0 : S86) (a1 : (List (List Int))) : Option ((S86 × (List (List Int))) ⊕ (S86 × (List (List Int)))) :=
  (loop (fun s => event_Read_1_l1 s.1 s.2.1 s.2.2) (a0.f0, a1, 0)).bind fun t => match t with | (.inl t) => event_Read_1_x1_0 t.1 t.2 | (.inr t) => some t
noncomputable def Try_event_Read_1 (a0 : (List Int)) (a60 : (List (List Int))) : Option (Bool × (List (List Int))) :=
  (event_Read_1 (⟨a0⟩ : S86) a60).bind fun y => (sum_ y (fun y => some ((((y.1.f0.length : Int) == 0), y.2))) (fun y => some ((false, y.2))))
noncomputable def event_Read_b1 (y103 : (Int × (List Int) × Int × Int)) (l697 : (List S39)) : Option ((List S39) × Int × Int) :=
  some (l697, y103.2.2.1, 0)
noncomputable def event_Read_x1_0 (y103 : (Int × (List Int) × Int × Int)) (l811 : (List S39)) : Option ((List S39) × Int × Int) :=
  event_Read_b1 y103 l811
noncomputable def event_Read_l1 (a2 : Int) (y145 : ((List Int) × Int)) (y158 : ((List Int) × Int)) (y171 : ((List Int) × Int)) (y184 : ((List (List UInt8)) × Int)) (y197 : ((List Nat) × Int)) (l758 : (List S39)) (x762 : Int) : Option (((List S39) × Int) ⊕ (((List S39)) ⊕ ((List S39) × Int × Int))) :=
  if (decide (x762 < (y145.1.length : Int))) = true then ((at_ y145.1 x762).bind fun x823 => (ltt (IntKind.u64.wrap x823) fun x826 => ((at_ y158.1 x762).bind fun x828 => ((at_ y171.1 x762).bind fun x831 => ((at_ y184.1 x762).bind fun x834 => ((at_ y197.1 x762).bind fun x837 => ((event_Form (⟨x826, x828, x831, x834, x837⟩ : S39) a2).bind fun y848 => (if (!y848) = true then (some (.inr (.inr ([], 0, 3)))) else (chk (l758.length + [(⟨x826, x828, x831, x834, x837⟩ : S39)].length ≤ 140737488355328 / 48) (ltt (IntKind.i64.wrap (x762 + 1)) fun x857 => (some (.inl (l758 ++ [(⟨x826, x828, x831, x834, x837⟩ : S39)], x857))))))))))))) else (some (.inr (.inl (l758))))
noncomputable def event_Read_j2 (a2 : Int) (y103 : (Int × (List Int) × Int × Int)) (y145 : ((List Int) × Int)) (y158 : ((List Int) × Int)) (y171 : ((List Int) × Int)) (y184 : ((List (List UInt8)) × Int)) (y197 : ((List Nat) × Int)) (b212 : Bool) : Option ((List S39) × Int × Int) :=
  if b212 = true then (some ([], 0, 3)) else ((loop (fun s => event_Read_l1 a2 y145 y158 y171 y184 y197 s.1 s.2) ([], 0)).bind fun t => match t with | (.inl t) => event_Read_x1_0 y103 t | (.inr t) => some t)
noncomputable def event_Read_j1 (a2 : Int) (y103 : (Int × (List Int) × Int × Int)) (l131 : (List (List Int))) (b132 : Bool) : Option ((List S39) × Int × Int) :=
  if (!b132) = true then (some ([], 0, 3)) else ((at_ l131 0).bind fun x138 => ((column_ReadInts x138).bind fun y145 => ((at_ l131 1).bind fun x151 => ((column_ReadInts x151).bind fun y158 => ((at_ l131 2).bind fun x164 => ((column_ReadInts x164).bind fun y171 => ((at_ l131 3).bind fun x177 => ((column_ReadTexts x177).bind fun y184 => ((at_ l131 4).bind fun x190 => ((column_ReadReals x190).bind fun y197 => ((slices_Contains_api_Errno_api_Errno [y145.2, y158.2, y171.2, y184.2, y197.2] 3).bind fun y860 => (if y860 = true then (event_Read_j2 a2 y103 y145 y158 y171 y184 y197 true) else (if ((y158.1.length : Int) != (y145.1.length : Int)) = true then (event_Read_j2 a2 y103 y145 y158 y171 y184 y197 true) else (if ((y171.1.length : Int) != (y145.1.length : Int)) = true then (event_Read_j2 a2 y103 y145 y158 y171 y184 y197 true) else (if ((y184.1.length : Int) != (y145.1.length : Int)) = true then (event_Read_j2 a2 y103 y145 y158 y171 y184 y197 true) else (event_Read_j2 a2 y103 y145 y158 y171 y184 y197 ((y197.1.length : Int) != (y145.1.length : Int))))))))))))))))))
noncomputable def event_Read (a0 : (List Int)) (a1 : Int) (a2 : Int) : Option ((List S39) × Int × Int) :=
  (page_Read a0 a1).bind fun y103 => (if (y103.2.2.2 != 0) = true then (some ([], 0, y103.2.2.2)) else (if (y103.1 == 101) = true then ((Try_event_Read_1 y103.2.1 ([[], [], [], [], []] : List (List Int))).bind fun y872 => (event_Read_j1 a2 y103 y872.2 y872.1)) else (event_Read_j1 a2 y103 ([[], [], [], [], []] : List (List Int)) false)))
end Go.Proofs.YthokgnonmcgkcaaDoor.M
