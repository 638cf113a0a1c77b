/- Texts of the claim, joined: what it uses of Mce, Drr, Mrr, Tr, Dcr, Mcr, Drf, Mrf, Drg, Mrg, Dtx, Mtx, Va, Dst0, Vb, Dst. -/
import Derived.Test.YteodeedejjcmgaaDoorZb
import Derived.Test.YteodeedejjcmgaaDoorProg
import Derived.Shelf.SlIter.Sorted
import Derived.Shelf.Sort.Plain
import Derived.Shelf.Slices.In.SortNone
import Derived.Shelf.Slices.CompactS
import Derived.KernelRfl
namespace Go.Proofs.YteodeedejjcmgaaDoor.M
open Go Go.RowKit Go.Proofs.YteodeedejjcmgaaDoor.E
set_option linter.unusedVariables false
set_option maxRecDepth 100000
set_option maxHeartbeats 4000000
set_option linter.unusedSimpArgs false
theorem F_column_Uint {r : World} {L : List HP} {w : World} (a0 : (List Int)) (a1 : Int) (A0 : Option Addr) (n0 : Nat) (c0 : Nat) {y : ((List Int))} (hF : column_Uint a0 a1 = some y) (hS : SH r (own (kI .u8) 5 A0 n0 c0 a0 :: L) w) :
  Ret Tryd.prog 48 #[.slice A0 n0 c0, .int .u64 a1] w fun v w' => ∃ (B0 : Option Addr) (m0 : Nat) (d0 : Nat), v = .slice B0 m0 d0 ∧ SH r (own (kI .u8) 5 B0 m0 d0 y :: L) w' := by
 refine enter Tryd.func48 rfl Tryd.ntmps48 [(0, .slice A0 n0 c0), (1, .int .u64 a1)] rfl (by simp) ?_
 intro ac hA Qf hQ hQn
 unfold column_Uint at hF
 refine ws fun K101 hK101 => ?_
 refine x_m hA rfl fun ac hA => ?_
 refine wn (hK101 _ _ ?_)
 refine wp_seq_k fun K102 hK102 => ?_
 refine wp_block_k fun Kx248 hKx248 => ?_
 have hb1 : ∀ (l318 : (List Int)) (x322 : Int), column_Uint_b1 l318 x322 = some y → ∀ (A319 : Option Addr) (n320 : Nat) (c321 : Nat) (ac : Act) (w : World), FR 20 [] ac [(0, .slice A319 n320 c321), (1, .int .u64 x322)] → SH r (own (kI .u8) 5 A319 n320 c321 l318 :: L) w → Kx248 ac w := by
  intro l318 x322 hF A319 n320 c321 ac w hA hS
  unfold column_Uint_b1 at hF
  refine hKx248 _ _ ?_
  refine hK102 _ _ ?_
  refine ws fun K323 hK323 => ?_
  refine x_m hA rfl fun ac hA => ?_
  refine x_m hA rfl fun ac hA => ?_
  obtain ⟨x324, h325, hF⟩ := ltt_ hF
  refine x_v (v := .int .u8 x324) hA (rv_i h325 (r_convI Tryd.underlying31 Tryd.underlying5 rfl (hA.ev rfl))) rfl fun ac hA => ?_
  refine x_bsl (d := (kI .u8)) (e := 5) (ps := #[(0, .int .u8 x324)]) (cells := [.int .u8 x324]) (xs := [x324]) (fun w => by kernel_rfl) rfl ⟨[.int .u8 x324], _, rfl, rfl, rfl⟩ hA hS (fun g326 ac w hS hA => ?_) rfl rfl rfl rfl rfl rfl
  obtain ⟨h327, hF⟩ := chk_some hF
  have hr := hS.rd 0 rfl
  refine x_app 1 inf5 Tryd.underlying24 hA hS hr.1 hr.2.1 h327 rfl (fun A328 n329 c330 ac w hS hA => ?_) rfl rfl rfl rfl rfl rfl rfl rfl rfl
  refine x_m hA rfl fun ac hA => ?_
  refine wn (hK323 _ _ ?_)
  refine wp_ret ?_
  replace hS := hS.drop 1
  cases hF
  refine hQ _ _ ?_
  refine lv Tryd.results48 hA rfl ?_
  exact ⟨A328, n329, c330, rfl, hS⟩
 obtain ⟨t382, hl382, hF⟩ := bnd hF
 have hx382_0 : ∀ (l378 : (List Int)) (x382 : Int), (l378, x382) = t382 → ∀ (A379 : Option Addr) (n380 : Nat) (c381 : Nat) (ac : Act) (w : World), FR 20 [] ac [(0, .slice A379 n380 c381), (1, .int .u64 x382)] → SH r (own (kI .u8) 5 A379 n380 c381 l378 :: L) w → Kx248 ac w := by
  intro l378 x382 ht A379 n380 c381 ac w hA hS
  subst ht
  replace hF : column_Uint_x1_0 l378 x382 = some y := hF
  unfold column_Uint_x1_0 at hF
  exact hb1 l378 x382 hF A379 n380 c381 ac w (hA.sub _ rfl) hS
 refine wp_loop_fn hl382 (fun s ac w => ∃ (A353 : Option Addr) (n354 : Nat) (c355 : Nat), FR 20 [] ac [(0, .slice A353 n354 c355), (1, .int .u64 s.2)] ∧ SH r (own (kI .u8) 5 A353 n354 c355 s.1 :: L) w) ⟨A0, n0, c0, hA.sub _ rfl, hS⟩ ?_
 intro N382 s382 o382 hF N382_ T382_ ac w hLab
 obtain ⟨l352, x356⟩ := s382
 replace hF : column_Uint_l1 l352 x356 = some o382 := hF
 unfold column_Uint_l1 at hF
 try dsimp only at hLab
 obtain ⟨A353, n354, c355, hA, hS⟩ := hLab
 refine wp_seq_k fun K384 hK384 => ?_
 refine ws fun K385 hK385 => ?_
 refine x_m hA rfl fun ac hA => ?_
 refine x_v hA (r_geI rfl (hA.ev rfl) (hA.ev rfl)) rfl fun ac hA => ?_
 refine wn (hK385 _ _ ?_)
 refine c_if hA rfl (fun hb386 => ?_) fun hb386 => ?_
 ·replace hF := ift hb386 hF
  refine wp_skip ?_
  refine hK384 _ _ ?_
  refine wp_seq_k fun K387 hK387 => ?_
  refine wp_block_k fun Kx388 hKx388 => ?_
  refine wp_reg ?_
  refine x_m hA rfl fun ac hA => ?_
  refine x_m hA rfl fun ac hA => ?_
  obtain ⟨x389, h390, hF⟩ := ltt_ hF
  refine x_v (v := .int .u8 x389) hA (rv_i h390 (r_convI Tryd.underlying31 Tryd.underlying5 rfl (hA.ev rfl))) rfl fun ac hA => ?_
  obtain ⟨x391, h392, hF⟩ := ltt_ hF
  refine x_v (v := .int .u8 x391) hA (rv_i h392 (r_or rfl (hA.ev rfl) (hA.ev rfl))) rfl fun ac hA => ?_
  refine x_bsl (d := (kI .u8)) (e := 5) (ps := #[(0, .int .u8 x391)]) (cells := [.int .u8 x391]) (xs := [x391]) (fun w => by kernel_rfl) rfl ⟨[.int .u8 x391], _, rfl, rfl, rfl⟩ hA hS (fun g393 ac w hS hA => ?_) rfl rfl rfl rfl rfl rfl
  obtain ⟨h394, hF⟩ := chk_some hF
  have hr := hS.rd 0 rfl
  refine x_app 1 inf5 Tryd.underlying24 hA hS hr.1 hr.2.1 h394 rfl (fun A395 n396 c397 ac w hS hA => ?_) rfl rfl rfl rfl rfl rfl rfl rfl rfl
  refine x_m hA rfl fun ac hA => ?_
  refine wpList_nil ?_
  refine hKx388 _ _ ?_
  refine hK387 _ _ ?_
  refine wp_reg ?_
  refine x_m hA rfl fun ac hA => ?_
  obtain ⟨x398, h399, hF⟩ := ltt_ hF
  refine x_v (v := .int .u64 x398) hA (rv_i h399 (r_shr rfl (hA.ev rfl) (hA.ev rfl) (by decide))) rfl fun ac hA => ?_
  refine x_m hA rfl fun ac hA => ?_
  refine wpList_nil ?_
  replace hS := hS.drop 1
  cases hF
  exact ⟨_, N382_ _ rfl, A395, n396, c397, hA.sub _ rfl, hS⟩
 replace hF := iff' hb386 hF
 refine wp_exit ?_
 cases hF
 exact hx382_0 l352 x356 (T382_ _ rfl) A353 n354 c355 ac w (hA.sub _ rfl) hS
theorem F_column_Int {r : World} {L : List HP} {w : World} (a0 : (List Int)) (a1 : Int) (A0 : Option Addr) (n0 : Nat) (c0 : Nat) {y : ((List Int))} (hF : column_Int a0 a1 = some y) (hS : SH r (own (kI .u8) 5 A0 n0 c0 a0 :: L) w) :
  Ret Tryd.prog 28 #[.slice A0 n0 c0, .int .i64 a1] w fun v w' => ∃ (B0 : Option Addr) (m0 : Nat) (d0 : Nat), v = .slice B0 m0 d0 ∧ SH r (own (kI .u8) 5 B0 m0 d0 y :: L) w' := by
 refine enter Tryd.func28 rfl Tryd.ntmps28 [(0, .slice A0 n0 c0), (1, .int .i64 a1)] rfl (by simp) ?_
 intro ac hA Qf hQ hQn
 unfold column_Int at hF
 refine ws fun K101 hK101 => ?_
 refine x_m hA rfl fun ac hA => ?_
 refine wn (hK101 _ _ ?_)
 refine ws fun K102 hK102 => ?_
 refine x_m hA rfl fun ac hA => ?_
 refine x_m hA rfl fun ac hA => ?_
 obtain ⟨x103, h104, hF⟩ := ltt_ hF
 refine x_v (v := .int .i64 x103) hA (rv_i h104 (r_shl rfl (hA.ev rfl) (hA.ev rfl) (by decide))) rfl fun ac hA => ?_
 obtain ⟨x105, h106, hF⟩ := ltt_ hF
 refine x_v (v := .int .u64 x105) hA (rv_i h106 (r_convI Tryd.underlying2 Tryd.underlying31 rfl (hA.ev rfl))) rfl fun ac hA => ?_
 refine x_m hA rfl fun ac hA => ?_
 obtain ⟨x107, h108, hF⟩ := ltt_ hF
 refine x_v (v := .int .i64 x107) hA (rv_i h108 (r_shr rfl (hA.ev rfl) (hA.ev rfl) (by decide))) rfl fun ac hA => ?_
 obtain ⟨x109, h110, hF⟩ := ltt_ hF
 refine x_v (v := .int .u64 x109) hA (rv_i h110 (r_convI Tryd.underlying2 Tryd.underlying31 rfl (hA.ev rfl))) rfl fun ac hA => ?_
 obtain ⟨x111, h112, hF⟩ := ltt_ hF
 refine x_v (v := .int .u64 x111) hA (rv_i h112 (r_xor rfl (hA.ev rfl) (hA.ev rfl))) rfl fun ac hA => ?_
 obtain ⟨y113, h114, hF⟩ := bnd hF
 refine x_call en48 hA (F_column_Uint (L := L) a0 x111 A0 n0 c0 h114 hS) (fun v ac w hR hA => ?_) rfl rfl rfl rfl rfl
 obtain ⟨B115, m116, d117, rfl, hS⟩ := hR
 refine x_m hA rfl fun ac hA => ?_
 refine wn (hK102 _ _ ?_)
 refine wp_ret ?_
 cases hF
 refine hQ _ _ ?_
 refine lv Tryd.results28 hA rfl ?_
 exact ⟨B115, m116, d117, rfl, hS⟩
theorem F_column_Text {r : World} {L : List HP} {w : World} (a0 : (List Int)) (a1 : (List UInt8)) (A0 : Option Addr) (n0 : Nat) (c0 : Nat) {y : ((List Int))} (hF : column_Text a0 a1 = some y) (hS : SH r (own (kI .u8) 5 A0 n0 c0 a0 :: L) w) :
  Ret Tryd.prog 29 #[.slice A0 n0 c0, str a1] w fun v w' => ∃ (B0 : Option Addr) (m0 : Nat) (d0 : Nat), v = .slice B0 m0 d0 ∧ SH r (own (kI .u8) 5 B0 m0 d0 y :: L) w' := by
 refine enter Tryd.func29 rfl Tryd.ntmps29 [(0, .slice A0 n0 c0), (1, str a1)] rfl (by simp) ?_
 intro ac hA Qf hQ hQn
 unfold column_Text at hF
 refine ws fun K101 hK101 => ?_
 refine x_m hA rfl fun ac hA => ?_
 refine wn (hK101 _ _ ?_)
 refine ws fun K102 hK102 => ?_
 refine x_m hA rfl fun ac hA => ?_
 refine x_m hA rfl fun ac hA => ?_
 refine x_v hA (r_lenS Tryd.underlying9 rfl (hA.ev rfl)) rfl fun ac hA => ?_
 obtain ⟨x103, h104, hF⟩ := ltt_ hF
 refine x_v (v := .int .u64 x103) hA (rv_i h104 (r_convI Tryd.underlying3 Tryd.underlying31 rfl (hA.ev rfl))) rfl fun ac hA => ?_
 obtain ⟨y105, h106, hF⟩ := bnd hF
 refine x_call en48 hA (F_column_Uint (L := L) a0 x103 A0 n0 c0 h106 hS) (fun v ac w hR hA => ?_) rfl rfl rfl rfl rfl
 obtain ⟨B107, m108, d109, rfl, hS⟩ := hR
 refine x_m hA rfl fun ac hA => ?_
 obtain ⟨h110, hF⟩ := chk_some hF
 refine x_appS 0 inf5 Tryd.underlying24 Tryd.underlying9 hA hS h110 rfl (fun A111 n112 c113 ac w hS hA => ?_) rfl rfl rfl rfl rfl rfl
 refine x_m hA rfl fun ac hA => ?_
 refine wn (hK102 _ _ ?_)
 refine wp_ret ?_
 cases hF
 refine hQ _ _ ?_
 refine lv Tryd.results29 hA rfl ?_
 exact ⟨A111, n112, c113, rfl, hS⟩
theorem F_slices_Min_int64_int64 {r : World} {L : List HP} {w : World} (a0 : (List Int)) (A0 : Option Addr) (n0 : Nat) (c0 : Nat) {y : (Int)} (hF : slices_Min_int64_int64 a0 = some y) (ha0 : RdL L (kI .i64) A0 n0 c0 a0) (hS : SH r (L) w) :
  Ret Tryd.prog 96 #[.slice A0 n0 c0] w fun v w' => v = .int .i64 y ∧ SH r (L) w' := by
 refine enter Tryd.func96 rfl Tryd.ntmps96 [(0, .slice A0 n0 c0)] rfl (by simp) ?_
 intro ac hA Qf hQ hQn
 unfold slices_Min_int64_int64 at hF
 refine ws fun K101 hK101 => ?_
 refine x_m hA rfl fun ac hA => ?_
 refine wn (hK101 _ _ ?_)
 refine wp_seq_k fun K102 hK102 => ?_
 refine ws fun K105 hK105 => ?_
 refine x_m hA rfl fun ac hA => ?_
 refine x_len Tryd.underlying90 (hS.rdl 0 ha0 rfl).2.1 hA (fun ac hA => ?_) rfl rfl rfl rfl rfl
 refine x_v hA (r_ltI rfl (hA.ev rfl) (hA.ev rfl)) rfl fun ac hA => ?_
 refine wn (hK105 _ _ ?_)
 refine c_if hA rfl (fun hb106 => ?_) fun hb106 => ?_
 ·replace hF := ift hb106 hF
  refine wp_reg ?_
  refine x_v hA (r_makeI Tryd.underlying9 rfl rfl (hA.ev rfl)) rfl fun ac hA => ?_
  cases hF
 replace hF := iff' hb106 hF
 refine wp_skip ?_
 refine hK102 _ _ ?_
 refine ws fun K107 hK107 => ?_
 refine x_m hA rfl fun ac hA => ?_
 obtain ⟨x108, h109, hF⟩ := bnd hF
 refine x_ia Tryd.underlying90 sz2 (hS.rdl 0 ha0 rfl) h109 hA (fun ac hA => ?_) rfl rfl rfl rfl rfl rfl
 obtain ⟨cs, hV, hc110⟩ := el (hS.rdl 0 ha0 rfl) h109
 obtain rfl := hV
 refine x_ld Tryd.underlying2 (hc110 0 _ rfl) hA (fun ac hA => ?_) rfl rfl rfl rfl rfl rfl
 refine x_m hA rfl fun ac hA => ?_
 refine wn (hK107 _ _ ?_)
 refine wp_seq_k fun K111 hK111 => ?_
 refine ws fun K192 hK192 => ?_
 refine x_m hA rfl fun ac hA => ?_
 refine wn (hK192 _ _ ?_)
 refine wp_block_k fun Kx193 hKx193 => ?_
 have hb1 : ∀ (x232 : Int), slices_Min_int64_int64_b1 x232 = some y → ∀ (ac : Act) (w : World), FR 25 [] ac [(3, .int .i64 x232)] → SH r (L) w → Kx193 ac w := by
  intro x232 hF ac w hA hS
  unfold slices_Min_int64_int64_b1 at hF
  refine hKx193 _ _ ?_
  refine hK111 _ _ ?_
  refine ws fun K233 hK233 => ?_
  refine x_m hA rfl fun ac hA => ?_
  refine x_m hA rfl fun ac hA => ?_
  refine wn (hK233 _ _ ?_)
  refine wp_ret ?_
  cases hF
  refine hQ _ _ ?_
  refine lv Tryd.results96 hA rfl ?_
  exact ⟨rfl, hS⟩
 obtain ⟨t260, hl260, hF⟩ := bnd hF
 have hx260_0 : ∀ (x260 : Int), (x260) = t260 → ∀ (ac : Act) (w : World), FR 25 [] ac [(3, .int .i64 x260)] → SH r (L) w → Kx193 ac w := by
  intro x260 ht ac w hA hS
  subst ht
  replace hF : slices_Min_int64_int64_x1_0 x260 = some y := hF
  unfold slices_Min_int64_int64_x1_0 at hF
  exact hb1 x260 hF ac w (hA.sub _ rfl) hS
 refine wp_loop_fn hl260 (fun s ac w => FR 25 [] ac [(0, .slice A0 n0 c0), (3, .int .i64 s.1), (4, .int .i64 s.2)] ∧ SH r (L) w) ⟨hA.sub _ rfl, hS⟩ ?_
 intro N260 s260 o260 hF N260_ T260_ ac w hLab
 obtain ⟨x246, x247⟩ := s260
 replace hF : slices_Min_int64_int64_l1 a0 x246 x247 = some o260 := hF
 unfold slices_Min_int64_int64_l1 at hF
 try dsimp only at hLab
 obtain ⟨hA, hS⟩ := hLab
 refine wp_seq_k fun K262 hK262 => ?_
 refine ws fun K263 hK263 => ?_
 refine x_m hA rfl fun ac hA => ?_
 refine x_m hA rfl fun ac hA => ?_
 refine x_len Tryd.underlying90 (hS.rdl 0 ha0 rfl).2.1 hA (fun ac hA => ?_) rfl rfl rfl rfl rfl
 refine x_v hA (r_ltI rfl (hA.ev rfl) (hA.ev rfl)) rfl fun ac hA => ?_
 refine wn (hK263 _ _ ?_)
 refine c_if hA rfl (fun hb264 => ?_) fun hb264 => ?_
 ·replace hF := ift hb264 hF
  refine wp_skip ?_
  refine hK262 _ _ ?_
  refine wp_seq_k fun K265 hK265 => ?_
  refine wp_block_k fun Kx266 hKx266 => ?_
  refine wp_reg ?_
  refine x_m hA rfl fun ac hA => ?_
  refine x_m hA rfl fun ac hA => ?_
  refine x_m hA rfl fun ac hA => ?_
  obtain ⟨x267, h268, hF⟩ := bnd hF
  refine x_ia Tryd.underlying90 sz2 (hS.rdl 0 ha0 rfl) h268 hA (fun ac hA => ?_) rfl rfl rfl rfl rfl rfl
  obtain ⟨cs, hV, hc269⟩ := el (hS.rdl 0 ha0 rfl) h268
  obtain rfl := hV
  refine x_ld Tryd.underlying2 (hc269 0 _ rfl) hA (fun ac hA => ?_) rfl rfl rfl rfl rfl rfl
  refine x_v hA (r_minI rfl (hA.ev rfl) (hA.ev rfl)) rfl fun ac hA => ?_
  refine x_m hA rfl fun ac hA => ?_
  refine wpList_nil ?_
  refine hKx266 _ _ ?_
  refine hK265 _ _ ?_
  refine wp_reg ?_
  refine x_m hA rfl fun ac hA => ?_
  obtain ⟨x270, h271, hF⟩ := ltt_ hF
  refine x_v (v := .int .i64 x270) hA (rv_i h271 (r_add rfl (hA.ev rfl) (hA.ev rfl))) rfl fun ac hA => ?_
  refine x_m hA rfl fun ac hA => ?_
  refine wpList_nil ?_
  cases hF
  exact ⟨_, N260_ _ rfl, hA.sub _ rfl, hS⟩
 replace hF := iff' hb264 hF
 refine wp_exit ?_
 cases hF
 exact hx260_0 x246 (T260_ _ rfl) ac w (hA.sub _ rfl) hS
theorem F_bits_Len64 {r : World} {L : List HP} {w : World} (a0 : Int) {y : (Int)} (hF : bits_Len64 a0 = some y) (hS : SH r (L) w) :
  Ret Tryd.prog 97 #[.int .u64 a0] w fun v w' => v = .int .i64 y ∧ SH r (L) w' := by
 refine enter Tryd.func97 rfl Tryd.ntmps97 [(0, .int .u64 a0)] rfl (by simp) ?_
 intro ac hA Qf hQ hQn
 unfold bits_Len64 at hF
 refine ws fun K101 hK101 => ?_
 refine x_m hA rfl fun ac hA => ?_
 refine wn (hK101 _ _ ?_)
 refine wp_seq_k fun K102 hK102 => ?_
 have hj1 : ∀ (x108 : Int) (x109 : Int), bits_Len64_j1 x108 x109 = some y → ∀ (ac : Act) (w : World), FR 25 [] ac [(0, .int .u64 x108), (2, .int .i64 x109)] → SH r (L) w → K102 ac w := by
  intro x108 x109 hF ac w hA hS
  unfold bits_Len64_j1 at hF
  refine hK102 _ _ ?_
  refine wp_seq_k fun K110 hK110 => ?_
  have hj2 : ∀ (x118 : Int) (x119 : Int), bits_Len64_j2 x118 x119 = some y → ∀ (ac : Act) (w : World), FR 25 [] ac [(0, .int .u64 x118), (2, .int .i64 x119)] → SH r (L) w → K110 ac w := by
   intro x118 x119 hF ac w hA hS
   unfold bits_Len64_j2 at hF
   refine hK110 _ _ ?_
   refine wp_seq_k fun K120 hK120 => ?_
   have hj3 : ∀ (x128 : Int) (x129 : Int), bits_Len64_j3 x128 x129 = some y → ∀ (ac : Act) (w : World), FR 25 [] ac [(0, .int .u64 x128), (2, .int .i64 x129)] → SH r (L) w → K120 ac w := by
    intro x128 x129 hF ac w hA hS
    unfold bits_Len64_j3 at hF
    refine hK120 _ _ ?_
    refine ws fun K130 hK130 => ?_
    refine x_m hA rfl fun ac hA => ?_
    refine x_m hA rfl fun ac hA => ?_
    obtain ⟨x131, h132, hF⟩ := ltt_ hF
    refine x_v (v := .int .u8 x131) hA (rv_i h132 (r_convI Tryd.underlying31 Tryd.underlying5 rfl (hA.ev rfl))) rfl fun ac hA => ?_
    obtain ⟨x133, h134, hF⟩ := bnd hF
    refine x_v hA (r_indexS Tryd.underlying9 rfl (hA.ev rfl) (hA.ev rfl) (at_some h134).1 (at_some h134).2.2) rfl fun ac hA => ?_
    obtain ⟨x135, h136, hF⟩ := ltt_ hF
    refine x_v (v := .int .i64 x135) hA (rv_i h136 (r_convI Tryd.underlying5 Tryd.underlying3 rfl (hA.ev rfl))) rfl fun ac hA => ?_
    obtain ⟨x137, h138, hF⟩ := ltt_ hF
    refine x_v (v := .int .i64 x137) hA (rv_i h138 (r_add rfl (hA.ev rfl) (hA.ev rfl))) rfl fun ac hA => ?_
    refine x_m hA rfl fun ac hA => ?_
    refine wn (hK130 _ _ ?_)
    refine wp_ret ?_
    cases hF
    refine hQ _ _ ?_
    refine lv Tryd.results97 hA rfl ?_
    exact ⟨rfl, hS⟩
   refine ws fun K139 hK139 => ?_
   refine x_m hA rfl fun ac hA => ?_
   refine x_v hA (r_geI rfl (hA.ev rfl) (hA.ev rfl)) rfl fun ac hA => ?_
   refine wn (hK139 _ _ ?_)
   refine c_if hA rfl (fun hb140 => ?_) fun hb140 => ?_
   ·replace hF := ift hb140 hF
    refine ws fun K141 hK141 => ?_
    refine x_m hA rfl fun ac hA => ?_
    obtain ⟨x142, h143, hF⟩ := ltt_ hF
    refine x_v (v := .int .u64 x142) hA (rv_i h143 (r_shr rfl (hA.ev rfl) (hA.ev rfl) (by decide))) rfl fun ac hA => ?_
    refine x_m hA rfl fun ac hA => ?_
    refine wn (hK141 _ _ ?_)
    refine wp_reg ?_
    refine x_m hA rfl fun ac hA => ?_
    obtain ⟨x144, h145, hF⟩ := ltt_ hF
    refine x_v (v := .int .i64 x144) hA (rv_i h145 (r_add rfl (hA.ev rfl) (hA.ev rfl))) rfl fun ac hA => ?_
    refine x_m hA rfl fun ac hA => ?_
    refine wpList_nil ?_
    exact hj3 x142 x144 hF ac w (hA.sub _ rfl) hS
   replace hF := iff' hb140 hF
   refine wp_skip ?_
   exact hj3 x118 x119 hF ac w (hA.sub _ rfl) hS
  refine ws fun K146 hK146 => ?_
  refine x_m hA rfl fun ac hA => ?_
  refine x_v hA (r_geI rfl (hA.ev rfl) (hA.ev rfl)) rfl fun ac hA => ?_
  refine wn (hK146 _ _ ?_)
  refine c_if hA rfl (fun hb147 => ?_) fun hb147 => ?_
  ·replace hF := ift hb147 hF
   refine ws fun K148 hK148 => ?_
   refine x_m hA rfl fun ac hA => ?_
   obtain ⟨x149, h150, hF⟩ := ltt_ hF
   refine x_v (v := .int .u64 x149) hA (rv_i h150 (r_shr rfl (hA.ev rfl) (hA.ev rfl) (by decide))) rfl fun ac hA => ?_
   refine x_m hA rfl fun ac hA => ?_
   refine wn (hK148 _ _ ?_)
   refine wp_reg ?_
   refine x_m hA rfl fun ac hA => ?_
   obtain ⟨x151, h152, hF⟩ := ltt_ hF
   refine x_v (v := .int .i64 x151) hA (rv_i h152 (r_add rfl (hA.ev rfl) (hA.ev rfl))) rfl fun ac hA => ?_
   refine x_m hA rfl fun ac hA => ?_
   refine wpList_nil ?_
   exact hj2 x149 x151 hF ac w (hA.sub _ rfl) hS
  replace hF := iff' hb147 hF
  refine wp_skip ?_
  exact hj2 x108 x109 hF ac w (hA.sub _ rfl) hS
 refine ws fun K153 hK153 => ?_
 refine x_m hA rfl fun ac hA => ?_
 refine x_v hA (r_geI rfl (hA.ev rfl) (hA.ev rfl)) rfl fun ac hA => ?_
 refine wn (hK153 _ _ ?_)
 refine c_if hA rfl (fun hb154 => ?_) fun hb154 => ?_
 ·replace hF := ift hb154 hF
  refine ws fun K155 hK155 => ?_
  refine x_m hA rfl fun ac hA => ?_
  obtain ⟨x156, h157, hF⟩ := ltt_ hF
  refine x_v (v := .int .u64 x156) hA (rv_i h157 (r_shr rfl (hA.ev rfl) (hA.ev rfl) (by decide))) rfl fun ac hA => ?_
  refine x_m hA rfl fun ac hA => ?_
  refine wn (hK155 _ _ ?_)
  refine wp_reg ?_
  refine x_m hA rfl fun ac hA => ?_
  refine wpList_nil ?_
  exact hj1 x156 32 hF ac w (hA.sub _ rfl) hS
 replace hF := iff' hb154 hF
 refine wp_skip ?_
 exact hj1 a0 0 hF ac w (hA.sub _ rfl) hS
theorem F_column_pack {r : World} {L : List HP} {w : World} (a0 : (List Int)) (a1 : (List Int)) (A0 : Option Addr) (n0 : Nat) (c0 : Nat) (A1 : Option Addr) (n1 : Nat) (c1 : Nat) {y : ((List Int))} (hF : column_pack a0 a1 = some y) (ha1 : RdL L (kI .i64) A1 n1 c1 a1) (hS : SH r (own (kI .u8) 5 A0 n0 c0 a0 :: L) w) :
  Ret Tryd.prog 83 #[.slice A0 n0 c0, .slice A1 n1 c1] w fun v w' => ∃ (B0 : Option Addr) (m0 : Nat) (d0 : Nat), v = .slice B0 m0 d0 ∧ SH r (own (kI .u8) 5 B0 m0 d0 y :: L) w' := by
 refine enter Tryd.func83 rfl Tryd.ntmps83 [(0, .slice A0 n0 c0), (1, .slice A1 n1 c1)] rfl (by simp) ?_
 intro ac hA Qf hQ hQn
 unfold column_pack at hF
 refine ws fun K101 hK101 => ?_
 refine x_m hA rfl fun ac hA => ?_
 refine wn (hK101 _ _ ?_)
 refine wp_seq_k fun K102 hK102 => ?_
 refine ws fun K103 hK103 => ?_
 refine x_m hA rfl fun ac hA => ?_
 refine x_len Tryd.underlying90 (hS.rdl 1 ha1 rfl).2.1 hA (fun ac hA => ?_) rfl rfl rfl rfl rfl
 refine x_v hA (r_eqI rfl (hA.ev rfl) (hA.ev rfl)) rfl fun ac hA => ?_
 refine wn (hK103 _ _ ?_)
 refine c_if hA rfl (fun hb104 => ?_) fun hb104 => ?_
 ·replace hF := ift hb104 hF
  refine ws fun K105 hK105 => ?_
  refine x_m hA rfl fun ac hA => ?_
  refine x_m hA rfl fun ac hA => ?_
  refine wn (hK105 _ _ ?_)
  refine wp_ret ?_
  cases hF
  refine hQ _ _ ?_
  refine lv Tryd.results83 hA rfl ?_
  exact ⟨A0, n0, c0, rfl, hS⟩
 replace hF := iff' hb104 hF
 refine wp_skip ?_
 refine hK102 _ _ ?_
 refine ws fun K106 hK106 => ?_
 refine x_m hA rfl fun ac hA => ?_
 obtain ⟨y107, h108, hF⟩ := bnd hF
 refine x_call en96 hA (F_slices_Min_int64_int64 (L := own (kI .u8) 5 A0 n0 c0 a0 :: L) a1 A1 n1 c1 h108 (RdL.sfx 1 rfl ha1) hS) (fun v ac w hR hA => ?_) rfl rfl rfl rfl rfl
 obtain ⟨rfl, hS⟩ := hR
 refine x_m hA rfl fun ac hA => ?_
 refine wn (hK106 _ _ ?_)
 refine ws fun K109 hK109 => ?_
 refine x_m hA rfl fun ac hA => ?_
 refine wn (hK109 _ _ ?_)
 refine wp_seq_k fun K110 hK110 => ?_
 refine ws fun K233 hK233 => ?_
 refine x_m hA rfl fun ac hA => ?_
 refine x_len Tryd.underlying90 (hS.rdl 1 ha1 rfl).2.1 hA (fun ac hA => ?_) rfl rfl rfl rfl rfl
 refine x_m hA rfl fun ac hA => ?_
 refine wn (hK233 _ _ ?_)
 refine wp_block_k fun Kx234 hKx234 => ?_
 have hb1 : ∀ (x294 : Int), column_pack_b1 a0 a1 y107 x294 = some y → ∀ (ac : Act) (w : World), FR 83 [] ac [(0, .slice A0 n0 c0), (1, .slice A1 n1 c1), (5, .int .i64 y107), (6, .int .i64 x294)] → SH r (own (kI .u8) 5 A0 n0 c0 a0 :: L) w → Kx234 ac w := by
  intro x294 hF ac w hA hS
  unfold column_pack_b1 at hF
  refine hKx234 _ _ ?_
  refine hK110 _ _ ?_
  refine ws fun K295 hK295 => ?_
  refine x_m hA rfl fun ac hA => ?_
  refine x_m hA rfl fun ac hA => ?_
  obtain ⟨y296, h297, hF⟩ := bnd hF
  refine x_call en28 hA (F_column_Int (L := L) a0 y107 A0 n0 c0 h297 hS) (fun v ac w hR hA => ?_) rfl rfl rfl rfl rfl
  obtain ⟨B298, m299, d300, rfl, hS⟩ := hR
  refine x_m hA rfl fun ac hA => ?_
  obtain ⟨x301, h302, hF⟩ := ltt_ hF
  refine x_v (v := .int .u8 x301) hA (rv_i h302 (r_convI Tryd.underlying3 Tryd.underlying5 rfl (hA.ev rfl))) rfl fun ac hA => ?_
  refine x_bsl (d := (kI .u8)) (e := 5) (ps := #[(0, .int .u8 x301)]) (cells := [.int .u8 x301]) (xs := [x301]) (fun w => by kernel_rfl) rfl ⟨[.int .u8 x301], _, rfl, rfl, rfl⟩ hA hS (fun g303 ac w hS hA => ?_) rfl rfl rfl rfl rfl rfl
  obtain ⟨h304, hF⟩ := chk_some hF
  have hr := hS.rd 0 rfl
  refine x_app 1 inf5 Tryd.underlying24 hA hS hr.1 hr.2.1 h304 rfl (fun A305 n306 c307 ac w hS hA => ?_) rfl rfl rfl rfl rfl rfl rfl rfl rfl
  refine x_m hA rfl fun ac hA => ?_
  refine wn (hK295 _ _ ?_)
  refine ws fun K308 hK308 => ?_
  refine x_m hA rfl fun ac hA => ?_
  refine wn (hK308 _ _ ?_)
  refine ws fun K309 hK309 => ?_
  refine x_m hA rfl fun ac hA => ?_
  refine x_len Tryd.underlying90 (hS.rdl 2 ha1 rfl).2.1 hA (fun ac hA => ?_) rfl rfl rfl rfl rfl
  refine x_m hA rfl fun ac hA => ?_
  obtain ⟨x310, h311, hF⟩ := ltt_ hF
  refine x_v (v := .int .i64 x310) hA (rv_i h311 (r_mul rfl (hA.ev rfl) (hA.ev rfl))) rfl fun ac hA => ?_
  obtain ⟨x312, h313, hF⟩ := ltt_ hF
  refine x_v (v := .int .i64 x312) hA (rv_i h313 (r_add rfl (hA.ev rfl) (hA.ev rfl))) rfl fun ac hA => ?_
  obtain ⟨x314, h315, hF⟩ := ltt_ hF
  refine x_v (v := .int .i64 x314) hA (rv_i h315 (r_quo rfl (hA.ev rfl) (hA.ev rfl) (by decide))) rfl fun ac hA => ?_
  obtain ⟨h316, hF⟩ := chk_some hF
  refine x_mks (d := (kI .u8)) (bytes := 1) 0 inf5 rfl Tryd.underlying24 h316 hA hS (fun g317 ac w hS hA => ?_) rfl rfl rfl rfl rfl rfl
  refine x_m hA rfl fun ac hA => ?_
  refine wn (hK309 _ _ ?_)
  refine wp_seq_k fun K318 hK318 => ?_
  refine ws fun K5861 hK5861 => ?_
  refine x_m hA rfl fun ac hA => ?_
  refine x_len Tryd.underlying90 (hS.rdl 3 ha1 rfl).2.1 hA (fun ac hA => ?_) rfl rfl rfl rfl rfl
  refine x_m hA rfl fun ac hA => ?_
  refine wn (hK5861 _ _ ?_)
  refine wp_block_k fun Kx5862 hKx5862 => ?_
  have hb2 : ∀ (l8646 : (List Int)), column_pack_b2 y296 x301 l8646 = some y → ∀ (ac : Act) (w : World), FR 83 [] ac [(0, .slice A305 n306 c307), (10, .slice (some ⟨g317, 0, none⟩) x314.toNat x314.toNat)] → SH r (own (kI .u8) 5 A305 n306 c307 (y296 ++ [x301]) :: own (kI .u8) 5 (some ⟨g317, 0, none⟩) x314.toNat x314.toNat l8646 :: L) w → Kx5862 ac w := by
   intro l8646 hF ac w hA hS
   unfold column_pack_b2 at hF
   refine hKx5862 _ _ ?_
   refine hK318 _ _ ?_
   refine ws fun K8647 hK8647 => ?_
   refine x_m hA rfl fun ac hA => ?_
   refine x_m hA rfl fun ac hA => ?_
   obtain ⟨h8648, hF⟩ := chk_some hF
   have hr := hS.rd 1 rfl
   refine x_app 0 inf5 Tryd.underlying24 hA hS hr.1 hr.2.1 h8648 rfl (fun A8649 n8650 c8651 ac w hS hA => ?_) rfl rfl rfl rfl rfl rfl rfl rfl rfl
   refine x_m hA rfl fun ac hA => ?_
   refine wn (hK8647 _ _ ?_)
   refine wp_ret ?_
   replace hS := hS.drop 1
   cases hF
   refine hQ _ _ ?_
   refine lv Tryd.results83 hA rfl ?_
   exact ⟨A8649, n8650, c8651, rfl, hS⟩
  obtain ⟨t10485, hl10485, hF⟩ := bnd hF
  have hx10485_2 : ∀ (l10485 : (List Int)), (l10485) = t10485 → ∀ (ac : Act) (w : World), FR 83 [] ac [(0, .slice A305 n306 c307), (10, .slice (some ⟨g317, 0, none⟩) x314.toNat x314.toNat)] → SH r (own (kI .u8) 5 A305 n306 c307 (y296 ++ [x301]) :: own (kI .u8) 5 (some ⟨g317, 0, none⟩) x314.toNat x314.toNat l10485 :: L) w → Kx5862 ac w := by
   intro l10485 ht ac w hA hS
   subst ht
   replace hF : column_pack_x1_2 y296 x301 l10485 = some y := hF
   unfold column_pack_x1_2 at hF
   exact hb2 l10485 hF ac w (hA.sub _ rfl) hS
  replace hS := hS.drop 2
  replace hS := hS.pk 1
  refine wp_loop_fn hl10485 (fun s ac w => FR 83 [] ac [(0, .slice A305 n306 c307), (5, .int .i64 y107), (6, .int .i64 x294), (9, .int .i64 s.1), (10, .slice (some ⟨g317, 0, none⟩) x314.toNat x314.toNat), (48, .slice A1 n1 c1), (49, .int .i64 (a1.length : Int)), (50, .int .i64 s.2.2)] ∧ SH r (own (kI .u8) 5 A305 n306 c307 (y296 ++ [x301]) :: own (kI .u8) 5 (some ⟨g317, 0, none⟩) x314.toNat x314.toNat s.2.1 :: L) w) ⟨hA.sub _ rfl, hS⟩ ?_
  intro N10485 s10485 o10485 hF N10485_ T10485_ ac w hLab
  obtain ⟨x9531, l9532, x9533⟩ := s10485
  replace hF : column_pack_l1 a1 y107 x294 x9531 l9532 x9533 = some o10485 := hF
  unfold column_pack_l1 at hF
  try dsimp only at hLab
  obtain ⟨hA, hS⟩ := hLab
  refine ws fun K10487 hK10487 => ?_
  refine x_v hA (r_ltI rfl (hA.ev rfl) (hA.ev rfl)) rfl fun ac hA => ?_
  refine wn (hK10487 _ _ ?_)
  refine wp_seq_k fun K10488 hK10488 => ?_
  refine c_if hA rfl (fun hb10489 => ?_) fun hb10489 => ?_
  ·replace hF := ift hb10489 hF
   refine wp_skip ?_
   refine hK10488 _ _ ?_
   refine wp_seq_k fun K10490 hK10490 => ?_
   refine wp_block_k fun Kx10962 hKx10962 => ?_
   refine ws fun K11198 hK11198 => ?_
   obtain ⟨x11199, h11200, hF⟩ := bnd hF
   refine x_ia Tryd.underlying90 sz2 (hS.rdl 2 ha1 rfl) h11200 hA (fun ac hA => ?_) rfl rfl rfl rfl rfl rfl
   obtain ⟨cs, hV, hc11201⟩ := el (hS.rdl 2 ha1 rfl) h11200
   obtain rfl := hV
   refine x_ld Tryd.underlying2 (hc11201 0 _ rfl) hA (fun ac hA => ?_) rfl rfl rfl rfl rfl rfl
   refine x_m hA rfl fun ac hA => ?_
   refine wn (hK11198 _ _ ?_)
   refine ws fun K11202 hK11202 => ?_
   refine x_m hA rfl fun ac hA => ?_
   refine x_m hA rfl fun ac hA => ?_
   refine wn (hK11202 _ _ ?_)
   refine wp_block_k fun Kx11203 hKx11203 => ?_
   have hb3 : ∀ (x11317 : Int) (l11318 : (List Int)), column_pack_b3 x9533 x11317 l11318 = some o10485 → ∀ (ac : Act) (w : World), FR 83 [] ac [(0, .slice A305 n306 c307), (5, .int .i64 y107), (6, .int .i64 x294), (9, .int .i64 x11317), (10, .slice (some ⟨g317, 0, none⟩) x314.toNat x314.toNat), (48, .slice A1 n1 c1), (49, .int .i64 (a1.length : Int)), (50, .int .i64 x9533)] → SH r (own (kI .u8) 5 A305 n306 c307 (y296 ++ [x301]) :: own (kI .u8) 5 (some ⟨g317, 0, none⟩) x314.toNat x314.toNat l11318 :: L) w → Kx11203 ac w := by
    intro x11317 l11318 hF ac w hA hS
    unfold column_pack_b3 at hF
    refine hKx11203 _ _ ?_
    refine hKx10962 _ _ ?_
    refine hK10490 _ _ ?_
    refine wp_reg ?_
    obtain ⟨x11319, h11320, hF⟩ := ltt_ hF
    refine x_v (v := .int .i64 x11319) hA (rv_i h11320 (r_add rfl (hA.ev rfl) (hA.ev rfl))) rfl fun ac hA => ?_
    refine x_m hA rfl fun ac hA => ?_
    refine wpList_nil ?_
    cases hF
    exact ⟨_, N10485_ _ rfl, hA.sub _ rfl, hS⟩
   obtain ⟨t11398, hl11398, hF⟩ := bnd hF
   have hx11398_4 : ∀ (x11397 : Int) (l11398 : (List Int)), (x11397, l11398) = t11398 → ∀ (ac : Act) (w : World), FR 83 [] ac [(0, .slice A305 n306 c307), (5, .int .i64 y107), (6, .int .i64 x294), (9, .int .i64 x11397), (10, .slice (some ⟨g317, 0, none⟩) x314.toNat x314.toNat), (48, .slice A1 n1 c1), (49, .int .i64 (a1.length : Int)), (50, .int .i64 x9533)] → SH r (own (kI .u8) 5 A305 n306 c307 (y296 ++ [x301]) :: own (kI .u8) 5 (some ⟨g317, 0, none⟩) x314.toNat x314.toNat l11398 :: L) w → Kx11203 ac w := by
    intro x11397 l11398 ht ac w hA hS
    subst ht
    replace hF : column_pack_x2_4 x9533 x11397 l11398 = some o10485 := hF
    unfold column_pack_x2_4 at hF
    exact hb3 x11397 l11398 hF ac w (hA.sub _ rfl) hS
   refine wp_loop_fn hl11398 (fun s ac w => FR 83 [] ac [(0, .slice A305 n306 c307), (5, .int .i64 y107), (6, .int .i64 x294), (9, .int .i64 s.1), (10, .slice (some ⟨g317, 0, none⟩) x314.toNat x314.toNat), (12, .int .i64 x11199), (48, .slice A1 n1 c1), (49, .int .i64 (a1.length : Int)), (50, .int .i64 x9533), (54, .int .i64 x294), (55, .int .i64 s.2.2)] ∧ SH r (own (kI .u8) 5 A305 n306 c307 (y296 ++ [x301]) :: own (kI .u8) 5 (some ⟨g317, 0, none⟩) x314.toNat x314.toNat s.2.1 :: L) w) ⟨hA.sub _ rfl, hS⟩ ?_
   intro N11398 s11398 o11398 hF N11398_ T11398_ ac w hLab
   obtain ⟨x11357, l11358, x11359⟩ := s11398
   replace hF : column_pack_l2 y107 x294 x11199 x11357 l11358 x11359 = some o11398 := hF
   unfold column_pack_l2 at hF
   try dsimp only at hLab
   obtain ⟨hA, hS⟩ := hLab
   refine ws fun K11400 hK11400 => ?_
   refine x_v hA (r_ltI rfl (hA.ev rfl) (hA.ev rfl)) rfl fun ac hA => ?_
   refine wn (hK11400 _ _ ?_)
   refine wp_seq_k fun K11401 hK11401 => ?_
   refine c_if hA rfl (fun hb11402 => ?_) fun hb11402 => ?_
   ·replace hF := ift hb11402 hF
    refine wp_skip ?_
    refine hK11401 _ _ ?_
    refine wp_seq_k fun K11403 hK11403 => ?_
    refine wp_block_k fun Kx11404 hKx11404 => ?_
    refine ws fun K11405 hK11405 => ?_
    refine x_m hA rfl fun ac hA => ?_
    refine x_m hA rfl fun ac hA => ?_
    refine wn (hK11405 _ _ ?_)
    refine wp_seq_k fun K11406 hK11406 => ?_
    refine wp_draw [0, 0, 2, 7, 15, 0, 0, 96, 224, 0, 992, 2016, 4064, 0, 8192, 32736, 65535, 131071, 262143] [18] rfl hA hS (by kernel_rfl) (by kernel_rfl) (by kernel_rfl) (by kernel_rfl) fun w hS => ?_
    obtain ⟨x11407, h11408, hF⟩ := ltt_ hF
    obtain ⟨x11409, h11410, hF⟩ := bnd hF
    obtain ⟨cs, hV, hc11411⟩ := el (hS.rd 1 rfl) h11410
    obtain rfl := hV
    obtain ⟨x11412, h11413, hF⟩ := ltt_ hF
    obtain ⟨x11414, h11415, hF⟩ := ltt_ hF
    obtain ⟨h11416, hF⟩ := chk_some hF
    obtain ⟨x11417, h11418, hF⟩ := ltt_ hF
    obtain ⟨x11419, h11420, hF⟩ := ltt_ hF
    obtain ⟨x11421, h11422, hF⟩ := ltt_ hF
    obtain ⟨x11423, h11424, hF⟩ := ltt_ hF
    obtain ⟨h11425, hF⟩ := chk_some hF
    obtain ⟨x11426, h11427, hF⟩ := ltt_ hF
    obtain ⟨x11428, h11429, hF⟩ := ltt_ hF
    refine ⟨[(0, .slice (some ⟨g317, 0, none⟩) x314.toNat x314.toNat), (1, .int .i64 x11357), (2, .int .i64 x11407), (3, .pointer (some (ea (some ⟨g317, 0, none⟩) (x11407.toNat * 1)))), (4, .int .u8 x11409), (5, .int .i64 x11199), (6, .int .i64 y107), (7, .int .i64 x11412), (8, .int .u64 x11414), (9, .int .i64 x11359), (10, .int .u64 x11417), (11, .int .u64 x11419), (12, .int .u8 x11421), (13, .int .i64 x11357), (14, .int .i64 x11423), (15, .int .u8 x11426), (16, .int .u8 x11428), (17, .pointer (some (ea (some ⟨g317, 0, none⟩) (x11407.toNat * 1))))], ?_⟩
    refine dEff [0, 1, 2, 3, 4, 5, 6, 7, 8, 9, 10, 11, 12, 13, 14, 15, 16, 17] [18] (by kernel_rfl) ⟨pu rfl rfl [(10, .slice (some ⟨g317, 0, none⟩) x314.toNat x314.toNat)] (fun ac hA => y_move hA rfl rfl) rfl rfl, pu rfl rfl [(9, .int .i64 x11357)] (fun ac hA => y_move hA rfl rfl) rfl rfl, pu rfl rfl [(59, .int .i64 x11357)] (fun ac hA => (rv_i h11408 (r_quo rfl (hA.ev rfl) (hA.ev rfl) (by decide)) : RunV _ _ _ _ (.int .i64 x11407))) rfl rfl, pu rfl rfl [(58, .slice (some ⟨g317, 0, none⟩) x314.toNat x314.toNat), (60, .int .i64 x11407)] (fun ac hA => y_ia Tryd.underlying24 sz5 (hS.rd 1 rfl) h11410 hA rfl rfl rfl) rfl rfl, pu rfl rfl [(61, .pointer (some (ea (some ⟨g317, 0, none⟩) (x11407.toNat * 1))))] (fun ac hA => y_ld Tryd.underlying5 (hc11411 0 _ rfl) hA rfl rfl rfl) rfl rfl, pu rfl rfl [(12, .int .i64 x11199)] (fun ac hA => y_move hA rfl rfl) rfl rfl, pu rfl rfl [(5, .int .i64 y107)] (fun ac hA => y_move hA rfl rfl) rfl rfl, pu rfl rfl [(63, .int .i64 x11199), (64, .int .i64 y107)] (fun ac hA => (rv_i h11413 (r_sub rfl (hA.ev rfl) (hA.ev rfl)) : RunV _ _ _ _ (.int .i64 x11412))) rfl rfl, pu rfl rfl [(65, .int .i64 x11412)] (fun ac hA => (rv_i h11415 (r_convI Tryd.underlying2 Tryd.underlying31 rfl (hA.ev rfl)) : RunV _ _ _ _ (.int .u64 x11414))) rfl rfl, pu rfl rfl [(13, .int .i64 x11359)] (fun ac hA => y_move hA rfl rfl) rfl rfl, pu rfl rfl [(66, .int .u64 x11414), (67, .int .i64 x11359)] (fun ac hA => (rv_i h11418 (r_shr rfl (hA.ev rfl) (hA.ev rfl) h11416) : RunV _ _ _ _ (.int .u64 x11417))) rfl rfl, pu rfl rfl [(68, .int .u64 x11417)] (fun ac hA => (rv_i h11420 (r_and rfl (hA.ev rfl) (hA.ev rfl)) : RunV _ _ _ _ (.int .u64 x11419))) rfl rfl, pu rfl rfl [(69, .int .u64 x11419)] (fun ac hA => (rv_i h11422 (r_convI Tryd.underlying31 Tryd.underlying5 rfl (hA.ev rfl)) : RunV _ _ _ _ (.int .u8 x11421))) rfl rfl, pu rfl rfl [(9, .int .i64 x11357)] (fun ac hA => y_move hA rfl rfl) rfl rfl, pu rfl rfl [(71, .int .i64 x11357)] (fun ac hA => (rv_i h11424 (r_rem rfl (hA.ev rfl) (hA.ev rfl) (by decide)) : RunV _ _ _ _ (.int .i64 x11423))) rfl rfl, pu rfl rfl [(70, .int .u8 x11421), (72, .int .i64 x11423)] (fun ac hA => (rv_i h11427 (r_shl rfl (hA.ev rfl) (hA.ev rfl) h11425) : RunV _ _ _ _ (.int .u8 x11426))) rfl rfl, pu rfl rfl [(62, .int .u8 x11409), (73, .int .u8 x11426)] (fun ac hA => (rv_i h11429 (r_or rfl (hA.ev rfl) (hA.ev rfl)) : RunV _ _ _ _ (.int .u8 x11428))) rfl rfl, pu rfl rfl [(58, .slice (some ⟨g317, 0, none⟩) x314.toNat x314.toNat), (60, .int .i64 x11407)] (fun ac hA => y_ia Tryd.underlying24 sz5 (hS.rd 1 rfl) h11410 hA rfl rfl rfl) rfl rfl, trivial⟩ (by kernel_rfl) (by kernel_rfl) ⟨ef rfl [(74, .int .u8 x11428), (75, .pointer (some (ea (some ⟨g317, 0, none⟩) (x11407.toNat * 1))))] (fun ac hA K hK => ?_) rfl rfl, trivial⟩
    refine z_sto (z' := x11428) (off := 0) (vs := [.int .u8 x11428]) 1 sz5 hA hS rfl (at_some h11410).2.2 (fun c h => by cases h; rfl) (fun  w hS => ?_) rfl rfl rfl rfl rfl rfl
    refine hK _ [] _ rfl ?_
    refine dEnd [] (by kernel_rfl) trivial ⟨by kernel_rfl, by kernel_rfl⟩ [(0, .slice A305 n306 c307), (5, .int .i64 y107), (6, .int .i64 x294), (9, .int .i64 x11357), (10, .slice (some ⟨g317, 0, none⟩) x314.toNat x314.toNat), (12, .int .i64 x11199), (48, .slice A1 n1 c1), (49, .int .i64 (a1.length : Int)), (50, .int .i64 x9533), (54, .int .i64 x294), (55, .int .i64 x11359)] rfl (fun ac hA => ?_)
    refine hK11406 _ _ ?_
    refine wp_reg ?_
    refine x_m hA rfl fun ac hA => ?_
    obtain ⟨x11430, h11431, hF⟩ := ltt_ hF
    refine x_v (v := .int .i64 x11430) hA (rv_i h11431 (r_add rfl (hA.ev rfl) (hA.ev rfl))) rfl fun ac hA => ?_
    refine x_m hA rfl fun ac hA => ?_
    refine wpList_nil ?_
    refine hKx11404 _ _ ?_
    refine hK11403 _ _ ?_
    refine wp_reg ?_
    obtain ⟨x11432, h11433, hF⟩ := ltt_ hF
    refine x_v (v := .int .i64 x11432) hA (rv_i h11433 (r_add rfl (hA.ev rfl) (hA.ev rfl))) rfl fun ac hA => ?_
    refine x_m hA rfl fun ac hA => ?_
    refine wpList_nil ?_
    replace hS := hS.pk 1
    cases hF
    exact ⟨_, N11398_ _ rfl, hA.sub _ rfl, hS⟩
   replace hF := iff' hb11402 hF
   refine wp_exit ?_
   cases hF
   exact hx11398_4 x11357 l11358 (T11398_ _ rfl) ac w (hA.sub _ rfl) hS
  replace hF := iff' hb10489 hF
  refine wp_exit ?_
  cases hF
  exact hx10485_2 l9532 (T10485_ _ rfl) ac w (hA.sub _ rfl) hS
 obtain ⟨t11474, hl11474, hF⟩ := bnd hF
 have hx11474_0 : ∀ (x11474 : Int), (x11474) = t11474 → ∀ (ac : Act) (w : World), FR 83 [] ac [(0, .slice A0 n0 c0), (1, .slice A1 n1 c1), (5, .int .i64 y107), (6, .int .i64 x11474)] → SH r (own (kI .u8) 5 A0 n0 c0 a0 :: L) w → Kx234 ac w := by
  intro x11474 ht ac w hA hS
  subst ht
  replace hF : column_pack_x3_0 a0 a1 y107 x11474 = some y := hF
  unfold column_pack_x3_0 at hF
  exact hb1 x11474 hF ac w (hA.sub _ rfl) hS
 refine wp_loop_fn hl11474 (fun s ac w => FR 83 [] ac [(0, .slice A0 n0 c0), (1, .slice A1 n1 c1), (5, .int .i64 y107), (6, .int .i64 s.1), (20, .slice A1 n1 c1), (21, .int .i64 (a1.length : Int)), (22, .int .i64 s.2)] ∧ SH r (own (kI .u8) 5 A0 n0 c0 a0 :: L) w) ⟨hA.sub _ rfl, hS⟩ ?_
 intro N11474 s11474 o11474 hF N11474_ T11474_ ac w hLab
 obtain ⟨x11453, x11454⟩ := s11474
 replace hF : column_pack_l3 a1 y107 x11453 x11454 = some o11474 := hF
 unfold column_pack_l3 at hF
 try dsimp only at hLab
 obtain ⟨hA, hS⟩ := hLab
 refine ws fun K11476 hK11476 => ?_
 refine x_v hA (r_ltI rfl (hA.ev rfl) (hA.ev rfl)) rfl fun ac hA => ?_
 refine wn (hK11476 _ _ ?_)
 refine wp_seq_k fun K11477 hK11477 => ?_
 refine c_if hA rfl (fun hb11478 => ?_) fun hb11478 => ?_
 ·replace hF := ift hb11478 hF
  refine wp_skip ?_
  refine hK11477 _ _ ?_
  refine wp_seq_k fun K11479 hK11479 => ?_
  refine wp_block_k fun Kx11480 hKx11480 => ?_
  refine ws fun K11481 hK11481 => ?_
  obtain ⟨x11482, h11483, hF⟩ := bnd hF
  refine x_ia Tryd.underlying90 sz2 (hS.rdl 1 ha1 rfl) h11483 hA (fun ac hA => ?_) rfl rfl rfl rfl rfl rfl
  obtain ⟨cs, hV, hc11484⟩ := el (hS.rdl 1 ha1 rfl) h11483
  obtain rfl := hV
  refine x_ld Tryd.underlying2 (hc11484 0 _ rfl) hA (fun ac hA => ?_) rfl rfl rfl rfl rfl rfl
  refine x_m hA rfl fun ac hA => ?_
  refine wn (hK11481 _ _ ?_)
  refine wp_reg ?_
  refine x_m hA rfl fun ac hA => ?_
  refine x_m hA rfl fun ac hA => ?_
  refine x_m hA rfl fun ac hA => ?_
  obtain ⟨x11485, h11486, hF⟩ := ltt_ hF
  refine x_v (v := .int .i64 x11485) hA (rv_i h11486 (r_sub rfl (hA.ev rfl) (hA.ev rfl))) rfl fun ac hA => ?_
  obtain ⟨x11487, h11488, hF⟩ := ltt_ hF
  refine x_v (v := .int .u64 x11487) hA (rv_i h11488 (r_convI Tryd.underlying2 Tryd.underlying31 rfl (hA.ev rfl))) rfl fun ac hA => ?_
  obtain ⟨y11489, h11490, hF⟩ := bnd hF
  refine x_call en97 hA (F_bits_Len64 (L := own (kI .u8) 5 A0 n0 c0 a0 :: L) x11487 h11490 hS) (fun v ac w hR hA => ?_) rfl rfl rfl rfl rfl
  obtain ⟨rfl, hS⟩ := hR
  refine x_v hA (r_maxI rfl (hA.ev rfl) (hA.ev rfl)) rfl fun ac hA => ?_
  refine x_m hA rfl fun ac hA => ?_
  refine wpList_nil ?_
  refine hKx11480 _ _ ?_
  refine hK11479 _ _ ?_
  refine wp_reg ?_
  obtain ⟨x11491, h11492, hF⟩ := ltt_ hF
  refine x_v (v := .int .i64 x11491) hA (rv_i h11492 (r_add rfl (hA.ev rfl) (hA.ev rfl))) rfl fun ac hA => ?_
  refine x_m hA rfl fun ac hA => ?_
  refine wpList_nil ?_
  cases hF
  exact ⟨_, N11474_ _ rfl, hA.sub _ rfl, hS⟩
 replace hF := iff' hb11478 hF
 refine wp_exit ?_
 cases hF
 exact hx11474_0 x11453 (T11474_ _ rfl) ac w (hA.sub _ rfl) hS
theorem F_column_As {r : World} {L : List HP} {w : World} (a0 : Int) (a1 : (List Int)) (A1 : Option Addr) (n1 : Nat) (c1 : Nat) {y : ((List Int))} (hF : column_As a0 a1 = some y) (ha1 : RdL L (kI .i64) A1 n1 c1 a1) (hS : SH r (L) w) :
  Ret Tryd.prog 68 #[.int .u8 a0, .slice A1 n1 c1] w fun v w' => ∃ (B0 : Option Addr) (m0 : Nat) (d0 : Nat), v = .slice B0 m0 d0 ∧ SH r (own (kI .u8) 5 B0 m0 d0 y :: L) w' := by
 refine enter Tryd.func68 rfl Tryd.ntmps68 [(0, .int .u8 a0), (1, .slice A1 n1 c1)] rfl (by simp) ?_
 intro ac hA Qf hQ hQn
 unfold column_As at hF
 refine ws fun K101 hK101 => ?_
 refine x_m hA rfl fun ac hA => ?_
 refine wn (hK101 _ _ ?_)
 refine ws fun K102 hK102 => ?_
 refine x_m hA rfl fun ac hA => ?_
 refine x_bsl (d := (kI .u8)) (e := 5) (ps := #[(0, .int .u8 a0)]) (cells := [.int .u8 a0]) (xs := [a0]) (fun w => by kernel_rfl) rfl ⟨[.int .u8 a0], _, rfl, rfl, rfl⟩ hA hS (fun g103 ac w hS hA => ?_) rfl rfl rfl rfl rfl rfl
 refine x_m hA rfl fun ac hA => ?_
 refine x_len Tryd.underlying90 (hS.rdl 1 ha1 rfl).2.1 hA (fun ac hA => ?_) rfl rfl rfl rfl rfl
 obtain ⟨x104, h105, hF⟩ := ltt_ hF
 refine x_v (v := .int .u64 x104) hA (rv_i h105 (r_convI Tryd.underlying3 Tryd.underlying31 rfl (hA.ev rfl))) rfl fun ac hA => ?_
 obtain ⟨y106, h107, hF⟩ := bnd hF
 refine x_call en48 hA (F_column_Uint (L := L) [a0] x104 (some ⟨g103, 0, none⟩) 1 1 h107 hS) (fun v ac w hR hA => ?_) rfl rfl rfl rfl rfl
 obtain ⟨B108, m109, d110, rfl, hS⟩ := hR
 refine x_m hA rfl fun ac hA => ?_
 refine wn (hK102 _ _ ?_)
 refine wp_seq_k fun K111 hK111 => ?_
 refine ws fun K5229 hK5229 => ?_
 refine x_m hA rfl fun ac hA => ?_
 refine wn (hK5229 _ _ ?_)
 refine wp_block_k fun Kx5230 hKx5230 => ?_
 have hb1 : ∀ (l7786 : (List Int)), column_As_b1 l7786 = some y → ∀ (A7787 : Option Addr) (n7788 : Nat) (c7789 : Nat) (ac : Act) (w : World), FR 93 [] ac [(5, .slice A7787 n7788 c7789)] → SH r (own (kI .u8) 5 A7787 n7788 c7789 l7786 :: L) w → Kx5230 ac w := by
  intro l7786 hF A7787 n7788 c7789 ac w hA hS
  unfold column_As_b1 at hF
  refine hKx5230 _ _ ?_
  refine hK111 _ _ ?_
  refine ws fun K7790 hK7790 => ?_
  refine x_m hA rfl fun ac hA => ?_
  refine x_m hA rfl fun ac hA => ?_
  refine wn (hK7790 _ _ ?_)
  refine wp_ret ?_
  cases hF
  refine hQ _ _ ?_
  refine lv Tryd.results68 hA rfl ?_
  exact ⟨A7787, n7788, c7789, rfl, hS⟩
 refine ws fun K7791 hK7791 => ?_
 refine x_v hA (r_eqI rfl (hA.ev rfl) (hA.ev rfl)) rfl fun ac hA => ?_
 refine x_m hA rfl fun ac hA => ?_
 refine wn (hK7791 _ _ ?_)
 refine c_if hA rfl (fun hb7792 => ?_) fun hb7792 => ?_
 ·replace hF := ift hb7792 hF
  refine ws fun K7793 hK7793 => ?_
  refine x_m hA rfl fun ac hA => ?_
  refine x_len Tryd.underlying90 (hS.rdl 1 ha1 rfl).2.1 hA (fun ac hA => ?_) rfl rfl rfl rfl rfl
  refine x_m hA rfl fun ac hA => ?_
  refine wn (hK7793 _ _ ?_)
  refine wp_block_k fun Kx7794 hKx7794 => ?_
  have hb2 : ∀ (l7863 : (List Int)), column_As_b2 l7863 = some y → ∀ (A7864 : Option Addr) (n7865 : Nat) (c7866 : Nat) (ac : Act) (w : World), FR 93 [] ac [(5, .slice A7864 n7865 c7866)] → SH r (own (kI .u8) 5 A7864 n7865 c7866 l7863 :: L) w → Kx7794 ac w := by
   intro l7863 hF A7864 n7865 c7866 ac w hA hS
   unfold column_As_b2 at hF
   refine hKx7794 _ _ ?_
   exact hb1 l7863 hF A7864 n7865 c7866 ac w (hA.sub _ rfl) hS
  obtain ⟨t7917, hl7917, hF⟩ := bnd hF
  have hx7917_1 : ∀ (l7914 : (List Int)), (l7914) = t7917 → ∀ (A7915 : Option Addr) (n7916 : Nat) (c7917 : Nat) (ac : Act) (w : World), FR 93 [] ac [(5, .slice A7915 n7916 c7917)] → SH r (own (kI .u8) 5 A7915 n7916 c7917 l7914 :: L) w → Kx7794 ac w := by
   intro l7914 ht A7915 n7916 c7917 ac w hA hS
   subst ht
   replace hF : column_As_x1_1 l7914 = some y := hF
   unfold column_As_x1_1 at hF
   exact hb2 l7914 hF A7915 n7916 c7917 ac w (hA.sub _ rfl) hS
  refine wp_loop_fn hl7917 (fun s ac w => ∃ (A7889 : Option Addr) (n7890 : Nat) (c7891 : Nat), FR 93 [] ac [(5, .slice A7889 n7890 c7891), (22, .slice A1 n1 c1), (23, .int .i64 (a1.length : Int)), (24, .int .i64 s.2)] ∧ SH r (own (kI .u8) 5 A7889 n7890 c7891 s.1 :: L) w) ⟨B108, m109, d110, hA.sub _ rfl, hS⟩ ?_
  intro N7917 s7917 o7917 hF N7917_ T7917_ ac w hLab
  obtain ⟨l7888, x7892⟩ := s7917
  replace hF : column_As_l1 a1 l7888 x7892 = some o7917 := hF
  unfold column_As_l1 at hF
  try dsimp only at hLab
  obtain ⟨A7889, n7890, c7891, hA, hS⟩ := hLab
  refine ws fun K7919 hK7919 => ?_
  refine x_v hA (r_ltI rfl (hA.ev rfl) (hA.ev rfl)) rfl fun ac hA => ?_
  refine wn (hK7919 _ _ ?_)
  refine wp_seq_k fun K7920 hK7920 => ?_
  refine c_if hA rfl (fun hb7921 => ?_) fun hb7921 => ?_
  ·replace hF := ift hb7921 hF
   refine wp_skip ?_
   refine hK7920 _ _ ?_
   refine wp_seq_k fun K7922 hK7922 => ?_
   refine wp_block_k fun Kx7923 hKx7923 => ?_
   refine ws fun K7924 hK7924 => ?_
   obtain ⟨x7925, h7926, hF⟩ := bnd hF
   refine x_ia Tryd.underlying90 sz2 (hS.rdl 1 ha1 rfl) h7926 hA (fun ac hA => ?_) rfl rfl rfl rfl rfl rfl
   obtain ⟨cs, hV, hc7927⟩ := el (hS.rdl 1 ha1 rfl) h7926
   obtain rfl := hV
   refine x_ld Tryd.underlying2 (hc7927 0 _ rfl) hA (fun ac hA => ?_) rfl rfl rfl rfl rfl rfl
   refine x_m hA rfl fun ac hA => ?_
   refine wn (hK7924 _ _ ?_)
   refine wp_reg ?_
   refine x_m hA rfl fun ac hA => ?_
   refine x_m hA rfl fun ac hA => ?_
   obtain ⟨y7928, h7929, hF⟩ := bnd hF
   refine x_call en28 hA (F_column_Int (L := L) l7888 x7925 A7889 n7890 c7891 h7929 hS) (fun v ac w hR hA => ?_) rfl rfl rfl rfl rfl
   obtain ⟨B7930, m7931, d7932, rfl, hS⟩ := hR
   refine x_m hA rfl fun ac hA => ?_
   refine wpList_nil ?_
   refine hKx7923 _ _ ?_
   refine hK7922 _ _ ?_
   refine wp_reg ?_
   obtain ⟨x7933, h7934, hF⟩ := ltt_ hF
   refine x_v (v := .int .i64 x7933) hA (rv_i h7934 (r_add rfl (hA.ev rfl) (hA.ev rfl))) rfl fun ac hA => ?_
   refine x_m hA rfl fun ac hA => ?_
   refine wpList_nil ?_
   cases hF
   exact ⟨_, N7917_ _ rfl, B7930, m7931, d7932, hA.sub _ rfl, hS⟩
  replace hF := iff' hb7921 hF
  refine wp_exit ?_
  cases hF
  exact hx7917_1 l7888 (T7917_ _ rfl) A7889 n7890 c7891 ac w (hA.sub _ rfl) hS
 replace hF := iff' hb7792 hF
 refine ws fun K7935 hK7935 => ?_
 refine x_v hA (r_eqI rfl (hA.ev rfl) (hA.ev rfl)) rfl fun ac hA => ?_
 refine x_m hA rfl fun ac hA => ?_
 refine wn (hK7935 _ _ ?_)
 refine c_if hA rfl (fun hb7936 => ?_) fun hb7936 => ?_
 ·replace hF := ift hb7936 hF
  refine ws fun K7937 hK7937 => ?_
  refine x_m hA rfl fun ac hA => ?_
  refine wn (hK7937 _ _ ?_)
  refine ws fun K7938 hK7938 => ?_
  refine x_m hA rfl fun ac hA => ?_
  refine x_len Tryd.underlying90 (hS.rdl 1 ha1 rfl).2.1 hA (fun ac hA => ?_) rfl rfl rfl rfl rfl
  refine x_m hA rfl fun ac hA => ?_
  refine wn (hK7938 _ _ ?_)
  refine wp_block_k fun Kx7939 hKx7939 => ?_
  have hb3 : ∀ (l8020 : (List Int)), column_As_b3 l8020 = some y → ∀ (A8021 : Option Addr) (n8022 : Nat) (c8023 : Nat) (ac : Act) (w : World), FR 93 [] ac [(5, .slice A8021 n8022 c8023)] → SH r (own (kI .u8) 5 A8021 n8022 c8023 l8020 :: L) w → Kx7939 ac w := by
   intro l8020 hF A8021 n8022 c8023 ac w hA hS
   unfold column_As_b3 at hF
   refine hKx7939 _ _ ?_
   exact hb1 l8020 hF A8021 n8022 c8023 ac w (hA.sub _ rfl) hS
  obtain ⟨t8083, hl8083, hF⟩ := bnd hF
  have hx8083_3 : ∀ (l8080 : (List Int)), (l8080) = t8083 → ∀ (A8081 : Option Addr) (n8082 : Nat) (c8083 : Nat) (ac : Act) (w : World), FR 93 [] ac [(5, .slice A8081 n8082 c8083)] → SH r (own (kI .u8) 5 A8081 n8082 c8083 l8080 :: L) w → Kx7939 ac w := by
   intro l8080 ht A8081 n8082 c8083 ac w hA hS
   subst ht
   replace hF : column_As_x2_3 l8080 = some y := hF
   unfold column_As_x2_3 at hF
   exact hb3 l8080 hF A8081 n8082 c8083 ac w (hA.sub _ rfl) hS
  refine wp_loop_fn hl8083 (fun s ac w => ∃ (A8050 : Option Addr) (n8051 : Nat) (c8052 : Nat), FR 93 [] ac [(5, .slice A8050 n8051 c8052), (8, .int .i64 s.2.1), (34, .slice A1 n1 c1), (35, .int .i64 (a1.length : Int)), (36, .int .i64 s.2.2)] ∧ SH r (own (kI .u8) 5 A8050 n8051 c8052 s.1 :: L) w) ⟨B108, m109, d110, hA.sub _ rfl, hS⟩ ?_
  intro N8083 s8083 o8083 hF N8083_ T8083_ ac w hLab
  obtain ⟨l8049, x8053, x8054⟩ := s8083
  replace hF : column_As_l2 a1 l8049 x8053 x8054 = some o8083 := hF
  unfold column_As_l2 at hF
  try dsimp only at hLab
  obtain ⟨A8050, n8051, c8052, hA, hS⟩ := hLab
  refine ws fun K8085 hK8085 => ?_
  refine x_v hA (r_ltI rfl (hA.ev rfl) (hA.ev rfl)) rfl fun ac hA => ?_
  refine wn (hK8085 _ _ ?_)
  refine wp_seq_k fun K8086 hK8086 => ?_
  refine c_if hA rfl (fun hb8087 => ?_) fun hb8087 => ?_
  ·replace hF := ift hb8087 hF
   refine wp_skip ?_
   refine hK8086 _ _ ?_
   refine wp_seq_k fun K8088 hK8088 => ?_
   refine wp_block_k fun Kx8089 hKx8089 => ?_
   refine ws fun K8090 hK8090 => ?_
   obtain ⟨x8091, h8092, hF⟩ := bnd hF
   refine x_ia Tryd.underlying90 sz2 (hS.rdl 1 ha1 rfl) h8092 hA (fun ac hA => ?_) rfl rfl rfl rfl rfl rfl
   obtain ⟨cs, hV, hc8093⟩ := el (hS.rdl 1 ha1 rfl) h8092
   obtain rfl := hV
   refine x_ld Tryd.underlying2 (hc8093 0 _ rfl) hA (fun ac hA => ?_) rfl rfl rfl rfl rfl rfl
   refine x_m hA rfl fun ac hA => ?_
   refine wn (hK8090 _ _ ?_)
   refine ws fun K8094 hK8094 => ?_
   refine x_m hA rfl fun ac hA => ?_
   refine x_m hA rfl fun ac hA => ?_
   refine x_m hA rfl fun ac hA => ?_
   obtain ⟨x8095, h8096, hF⟩ := ltt_ hF
   refine x_v (v := .int .i64 x8095) hA (rv_i h8096 (r_sub rfl (hA.ev rfl) (hA.ev rfl))) rfl fun ac hA => ?_
   obtain ⟨y8097, h8098, hF⟩ := bnd hF
   refine x_call en28 hA (F_column_Int (L := L) l8049 x8095 A8050 n8051 c8052 h8098 hS) (fun v ac w hR hA => ?_) rfl rfl rfl rfl rfl
   obtain ⟨B8099, m8100, d8101, rfl, hS⟩ := hR
   refine x_m hA rfl fun ac hA => ?_
   refine wn (hK8094 _ _ ?_)
   refine wp_reg ?_
   refine x_m hA rfl fun ac hA => ?_
   refine x_m hA rfl fun ac hA => ?_
   refine wpList_nil ?_
   refine hKx8089 _ _ ?_
   refine hK8088 _ _ ?_
   refine wp_reg ?_
   obtain ⟨x8102, h8103, hF⟩ := ltt_ hF
   refine x_v (v := .int .i64 x8102) hA (rv_i h8103 (r_add rfl (hA.ev rfl) (hA.ev rfl))) rfl fun ac hA => ?_
   refine x_m hA rfl fun ac hA => ?_
   refine wpList_nil ?_
   cases hF
   exact ⟨_, N8083_ _ rfl, B8099, m8100, d8101, hA.sub _ rfl, hS⟩
  replace hF := iff' hb8087 hF
  refine wp_exit ?_
  cases hF
  exact hx8083_3 l8049 (T8083_ _ rfl) A8050 n8051 c8052 ac w (hA.sub _ rfl) hS
 replace hF := iff' hb7936 hF
 refine ws fun K8104 hK8104 => ?_
 refine x_v hA (r_eqI rfl (hA.ev rfl) (hA.ev rfl)) rfl fun ac hA => ?_
 refine x_m hA rfl fun ac hA => ?_
 refine wn (hK8104 _ _ ?_)
 refine c_if hA rfl (fun hb8105 => ?_) fun hb8105 => ?_
 ·replace hF := ift hb8105 hF
  refine ws fun K8106 hK8106 => ?_
  refine x_m hA rfl fun ac hA => ?_
  refine wn (hK8106 _ _ ?_)
  refine wp_block_k fun Kx8107 hKx8107 => ?_
  have hb4 : ∀ (l9220 : (List Int)), column_As_b4 l9220 = some y → ∀ (A9221 : Option Addr) (n9222 : Nat) (c9223 : Nat) (ac : Act) (w : World), FR 93 [] ac [(5, .slice A9221 n9222 c9223)] → SH r (own (kI .u8) 5 A9221 n9222 c9223 l9220 :: L) w → Kx8107 ac w := by
   intro l9220 hF A9221 n9222 c9223 ac w hA hS
   unfold column_As_b4 at hF
   refine hKx8107 _ _ ?_
   exact hb1 l9220 hF A9221 n9222 c9223 ac w (hA.sub _ rfl) hS
  obtain ⟨t9970, hl9970, hF⟩ := bnd hF
  have hx9970_5 : ∀ (l9967 : (List Int)), (l9967) = t9970 → ∀ (A9968 : Option Addr) (n9969 : Nat) (c9970 : Nat) (ac : Act) (w : World), FR 93 [] ac [(5, .slice A9968 n9969 c9970)] → SH r (own (kI .u8) 5 A9968 n9969 c9970 l9967 :: L) w → Kx8107 ac w := by
   intro l9967 ht A9968 n9969 c9970 ac w hA hS
   subst ht
   replace hF : column_As_x3_5 l9967 = some y := hF
   unfold column_As_x3_5 at hF
   exact hb4 l9967 hF A9968 n9969 c9970 ac w (hA.sub _ rfl) hS
  refine wp_loop_fn hl9970 (fun s ac w => ∃ (A9594 : Option Addr) (n9595 : Nat) (c9596 : Nat), FR 93 [] ac [(1, .slice A1 n1 c1), (5, .slice A9594 n9595 c9596), (11, .int .i64 s.2)] ∧ SH r (own (kI .u8) 5 A9594 n9595 c9596 s.1 :: L) w) ⟨B108, m109, d110, hA.sub _ rfl, hS⟩ ?_
  intro N9970 s9970 o9970 hF N9970_ T9970_ ac w hLab
  obtain ⟨l9593, x9597⟩ := s9970
  replace hF : column_As_l3 a1 l9593 x9597 = some o9970 := hF
  unfold column_As_l3 at hF
  try dsimp only at hLab
  obtain ⟨A9594, n9595, c9596, hA, hS⟩ := hLab
  refine wp_seq_k fun K9972 hK9972 => ?_
  refine ws fun K9973 hK9973 => ?_
  refine x_m hA rfl fun ac hA => ?_
  refine x_m hA rfl fun ac hA => ?_
  refine x_len Tryd.underlying90 (hS.rdl 1 ha1 rfl).2.1 hA (fun ac hA => ?_) rfl rfl rfl rfl rfl
  refine x_v hA (r_ltI rfl (hA.ev rfl) (hA.ev rfl)) rfl fun ac hA => ?_
  refine wn (hK9973 _ _ ?_)
  refine c_if hA rfl (fun hb9974 => ?_) fun hb9974 => ?_
  ·replace hF := ift hb9974 hF
   refine wp_skip ?_
   refine hK9972 _ _ ?_
   refine wp_block_k fun Kx9975 hKx9975 => ?_
   refine ws fun K9976 hK9976 => ?_
   refine x_m hA rfl fun ac hA => ?_
   refine wn (hK9976 _ _ ?_)
   refine wp_seq_k fun K9977 hK9977 => ?_
   refine wp_block_k fun Kx10147 hKx10147 => ?_
   have hb5 : ∀ (x10231 : Int), column_As_b5 a1 l9593 x9597 x10231 = some o9970 → ∀ (ac : Act) (w : World), FR 93 [] ac [(1, .slice A1 n1 c1), (5, .slice A9594 n9595 c9596), (11, .int .i64 x9597), (12, .int .i64 x10231)] → SH r (own (kI .u8) 5 A9594 n9595 c9596 l9593 :: L) w → Kx10147 ac w := by
    intro x10231 hF ac w hA hS
    unfold column_As_b5 at hF
    refine hKx10147 _ _ ?_
    refine hK9977 _ _ ?_
    refine ws fun K10232 hK10232 => ?_
    refine x_m hA rfl fun ac hA => ?_
    refine x_m hA rfl fun ac hA => ?_
    refine x_m hA rfl fun ac hA => ?_
    obtain ⟨x10233, h10234, hF⟩ := bnd hF
    refine x_ia Tryd.underlying90 sz2 (hS.rdl 1 ha1 rfl) h10234 hA (fun ac hA => ?_) rfl rfl rfl rfl rfl rfl
    obtain ⟨cs, hV, hc10235⟩ := el (hS.rdl 1 ha1 rfl) h10234
    obtain rfl := hV
    refine x_ld Tryd.underlying2 (hc10235 0 _ rfl) hA (fun ac hA => ?_) rfl rfl rfl rfl rfl rfl
    obtain ⟨y10236, h10237, hF⟩ := bnd hF
    refine x_call en28 hA (F_column_Int (L := L) l9593 x10233 A9594 n9595 c9596 h10237 hS) (fun v ac w hR hA => ?_) rfl rfl rfl rfl rfl
    obtain ⟨B10238, m10239, d10240, rfl, hS⟩ := hR
    refine x_m hA rfl fun ac hA => ?_
    obtain ⟨x10241, h10242, hF⟩ := ltt_ hF
    refine x_v (v := .int .i64 x10241) hA (rv_i h10242 (r_sub rfl (hA.ev rfl) (hA.ev rfl))) rfl fun ac hA => ?_
    obtain ⟨x10243, h10244, hF⟩ := ltt_ hF
    refine x_v (v := .int .u64 x10243) hA (rv_i h10244 (r_convI Tryd.underlying3 Tryd.underlying31 rfl (hA.ev rfl))) rfl fun ac hA => ?_
    obtain ⟨y10245, h10246, hF⟩ := bnd hF
    refine x_call en48 hA (F_column_Uint (L := L) y10236 x10243 B10238 m10239 d10240 h10246 hS) (fun v ac w hR hA => ?_) rfl rfl rfl rfl rfl
    obtain ⟨B10247, m10248, d10249, rfl, hS⟩ := hR
    refine x_m hA rfl fun ac hA => ?_
    refine wn (hK10232 _ _ ?_)
    refine wp_reg ?_
    refine x_m hA rfl fun ac hA => ?_
    refine x_m hA rfl fun ac hA => ?_
    obtain ⟨x10250, h10251, hF⟩ := ltt_ hF
    refine x_v (v := .int .i64 x10250) hA (rv_i h10251 (r_add rfl (hA.ev rfl) (hA.ev rfl))) rfl fun ac hA => ?_
    refine x_m hA rfl fun ac hA => ?_
    refine wpList_nil ?_
    refine hKx9975 _ _ ?_
    cases hF
    exact ⟨_, N9970_ _ rfl, B10247, m10248, d10249, hA.sub _ rfl, hS⟩
   obtain ⟨t10307, hl10307, hF⟩ := bnd hF
   have hx10307_7 : ∀ (x10307 : Int), (x10307) = t10307 → ∀ (ac : Act) (w : World), FR 93 [] ac [(1, .slice A1 n1 c1), (5, .slice A9594 n9595 c9596), (11, .int .i64 x9597), (12, .int .i64 x10307)] → SH r (own (kI .u8) 5 A9594 n9595 c9596 l9593 :: L) w → Kx10147 ac w := by
    intro x10307 ht ac w hA hS
    subst ht
    replace hF : column_As_x4_7 a1 l9593 x9597 x10307 = some o9970 := hF
    unfold column_As_x4_7 at hF
    exact hb5 x10307 hF ac w (hA.sub _ rfl) hS
   refine wp_loop_fn hl10307 (fun s ac w => FR 93 [] ac [(1, .slice A1 n1 c1), (5, .slice A9594 n9595 c9596), (11, .int .i64 x9597), (12, .int .i64 s)] ∧ SH r (own (kI .u8) 5 A9594 n9595 c9596 l9593 :: L) w) ⟨hA.sub _ rfl, hS⟩ ?_
   intro N10307 s10307 o10307 hF N10307_ T10307_ ac w hLab
   obtain ⟨x10279, rfl⟩ : ∃ q, q = s10307 := ⟨_, rfl⟩
   replace hF : column_As_l4 a1 x9597 x10279 = some o10307 := hF
   unfold column_As_l4 at hF
   try dsimp only at hLab
   obtain ⟨hA, hS⟩ := hLab
   refine wp_seq_k fun K10309 hK10309 => ?_
   refine wp_seq_k fun K10310 hK10310 => ?_
   have hj1 : ∀ (b10320 : Bool), column_As_j1 x10279 b10320 = some o10307 → ∀ (ac : Act) (w : World), FR 93 [] ac [(1, .slice A1 n1 c1), (5, .slice A9594 n9595 c9596), (11, .int .i64 x9597), (12, .int .i64 x10279), (71, .bool b10320)] → SH r (own (kI .u8) 5 A9594 n9595 c9596 l9593 :: L) w → K10310 ac w := by
    intro b10320 hF ac w hA hS
    unfold column_As_j1 at hF
    refine hK10310 _ _ ?_
    refine c_if hA rfl (fun hb10321 => ?_) fun hb10321 => ?_
    ·replace hF := ift hb10321 hF
     refine wp_skip ?_
     refine hK10309 _ _ ?_
     refine wp_block_k fun Kx10322 hKx10322 => ?_
     refine wp_reg ?_
     refine x_m hA rfl fun ac hA => ?_
     obtain ⟨x10323, h10324, hF⟩ := ltt_ hF
     refine x_v (v := .int .i64 x10323) hA (rv_i h10324 (r_add rfl (hA.ev rfl) (hA.ev rfl))) rfl fun ac hA => ?_
     refine x_m hA rfl fun ac hA => ?_
     refine wpList_nil ?_
     refine hKx10322 _ _ ?_
     cases hF
     exact ⟨_, N10307_ _ rfl, hA.sub _ rfl, hS⟩
    replace hF := iff' hb10321 hF
    refine wp_exit ?_
    cases hF
    exact hx10307_7 x10279 (T10307_ _ rfl) ac w (hA.sub _ rfl) hS
   refine wp_draw [0, 0, 3, 0, 8, 31, 63, 127, 127, 127, 895, 2047, 4095, 127, 127, 24703, 57471, 131071, 262143] [] rfl hA hS (by kernel_rfl) (by kernel_rfl) (by kernel_rfl) (by kernel_rfl) fun w hS => ?_
   obtain ⟨x10325, h10326, hF⟩ := ltt_ hF
   refine bcase (b := decide (x10325 < (a1.length : Int))) (fun hb10327 => ?_) fun hb10327 => ?_
   ·replace hF := ift hb10327 hF
    obtain ⟨x10328, h10329, hF⟩ := bnd hF
    obtain ⟨cs, hV, hc10330⟩ := el (hS.rdl 1 ha1 rfl) h10329
    obtain rfl := hV
    obtain ⟨x10331, h10332, hF⟩ := bnd hF
    obtain ⟨cs, hV, hc10333⟩ := el (hS.rdl 1 ha1 rfl) h10332
    obtain rfl := hV
    refine ⟨[(0, .int .i64 x9597), (1, .int .i64 x10279), (2, .int .i64 x10325), (3, .slice A1 n1 c1), (4, .int .i64 (a1.length : Int)), (5, .bool (decide (x10325 < (a1.length : Int)))), (6, .bool (decide (x10325 < (a1.length : Int)))), (7, .slice A1 n1 c1), (8, .int .i64 x9597), (9, .int .i64 x10279), (10, .int .i64 x10325), (11, .pointer (some (ea A1 (x10325.toNat * 1)))), (12, .int .i64 x10328), (13, .slice A1 n1 c1), (14, .int .i64 x9597), (15, .pointer (some (ea A1 (x9597.toNat * 1)))), (16, .int .i64 x10331), (17, .bool (x10328 == x10331)), (18, .bool (x10328 == x10331))], ?_⟩
    refine dEnd [0, 1, 2, 3, 4, 5, 6, 7, 8, 9, 10, 11, 12, 13, 14, 15, 16, 17, 18] (by kernel_rfl) ⟨pu rfl rfl [(11, .int .i64 x9597)] (fun ac hA => y_move hA rfl rfl) rfl rfl, pu rfl rfl [(12, .int .i64 x10279)] (fun ac hA => y_move hA rfl rfl) rfl rfl, pu rfl rfl [(53, .int .i64 x9597), (54, .int .i64 x10279)] (fun ac hA => (rv_i h10326 (r_add rfl (hA.ev rfl) (hA.ev rfl)) : RunV _ _ _ _ (.int .i64 x10325))) rfl rfl, pu rfl rfl [(1, .slice A1 n1 c1)] (fun ac hA => y_move hA rfl rfl) rfl rfl, pu rfl rfl [(56, .slice A1 n1 c1)] (fun ac hA => y_len Tryd.underlying90 (hS.rdl 1 ha1 rfl).2.1 hA rfl rfl) rfl rfl, pu rfl rfl [(55, .int .i64 x10325), (57, .int .i64 (a1.length : Int))] (fun ac hA => r_ltI rfl (hA.ev rfl) (hA.ev rfl)) rfl rfl, pu rfl rfl [(58, .bool (decide (x10325 < (a1.length : Int))))] (fun ac hA => y_move hA rfl rfl) rfl rfl, puOn rfl rfl rfl rfl [(1, .slice A1 n1 c1), (59, .bool (decide (x10325 < (a1.length : Int))))] rfl hb10327 (fun ac hA => y_move hA rfl rfl) rfl, puOn rfl rfl rfl rfl [(11, .int .i64 x9597), (59, .bool (decide (x10325 < (a1.length : Int))))] rfl hb10327 (fun ac hA => y_move hA rfl rfl) rfl, puOn rfl rfl rfl rfl [(12, .int .i64 x10279), (59, .bool (decide (x10325 < (a1.length : Int))))] rfl hb10327 (fun ac hA => y_move hA rfl rfl) rfl, puOn rfl rfl rfl rfl [(59, .bool (decide (x10325 < (a1.length : Int)))), (61, .int .i64 x9597), (62, .int .i64 x10279)] rfl hb10327 (fun ac hA => (rv_i h10326 (r_add rfl (hA.ev rfl) (hA.ev rfl)) : RunV _ _ _ _ (.int .i64 x10325))) rfl, puOn rfl rfl rfl rfl [(59, .bool (decide (x10325 < (a1.length : Int)))), (60, .slice A1 n1 c1), (63, .int .i64 x10325)] rfl hb10327 (fun ac hA => y_ia Tryd.underlying90 sz2 (hS.rdl 1 ha1 rfl) h10329 hA rfl rfl rfl) rfl, puOn rfl rfl rfl rfl [(59, .bool (decide (x10325 < (a1.length : Int)))), (64, .pointer (some (ea A1 (x10325.toNat * 1))))] rfl hb10327 (fun ac hA => y_ld Tryd.underlying2 (hc10330 0 _ rfl) hA rfl rfl rfl) rfl, puOn rfl rfl rfl rfl [(1, .slice A1 n1 c1), (59, .bool (decide (x10325 < (a1.length : Int))))] rfl hb10327 (fun ac hA => y_move hA rfl rfl) rfl, puOn rfl rfl rfl rfl [(11, .int .i64 x9597), (59, .bool (decide (x10325 < (a1.length : Int))))] rfl hb10327 (fun ac hA => y_move hA rfl rfl) rfl, puOn rfl rfl rfl rfl [(59, .bool (decide (x10325 < (a1.length : Int)))), (66, .slice A1 n1 c1), (67, .int .i64 x9597)] rfl hb10327 (fun ac hA => y_ia Tryd.underlying90 sz2 (hS.rdl 1 ha1 rfl) h10332 hA rfl rfl rfl) rfl, puOn rfl rfl rfl rfl [(59, .bool (decide (x10325 < (a1.length : Int)))), (68, .pointer (some (ea A1 (x9597.toNat * 1))))] rfl hb10327 (fun ac hA => y_ld Tryd.underlying2 (hc10333 0 _ rfl) hA rfl rfl rfl) rfl, puOn rfl rfl rfl rfl [(59, .bool (decide (x10325 < (a1.length : Int)))), (65, .int .i64 x10328), (69, .int .i64 x10331)] rfl hb10327 (fun ac hA => r_eqI rfl (hA.ev rfl) (hA.ev rfl)) rfl, pu rfl rfl [(59, .bool (decide (x10325 < (a1.length : Int)))), (70, .bool (x10328 == x10331))] (fun ac hA => y_pickt hb10327 hA rfl rfl rfl) rfl rfl, trivial⟩ ⟨by kernel_rfl, by kernel_rfl⟩ [(1, .slice A1 n1 c1), (5, .slice A9594 n9595 c9596), (11, .int .i64 x9597), (12, .int .i64 x10279), (60, .slice A1 n1 c1), (61, .int .i64 x9597), (62, .int .i64 x10279), (63, .int .i64 x10325), (65, .int .i64 x10328), (66, .slice A1 n1 c1), (67, .int .i64 x9597), (69, .int .i64 x10331), (70, .bool (x10328 == x10331)), (71, .bool (x10328 == x10331))] rfl (fun ac hA => ?_)
    exact hj1 (x10328 == x10331) hF ac w (hA.sub _ rfl) hS
   replace hF := iff' hb10327 hF
   refine ⟨[(0, .int .i64 x9597), (1, .int .i64 x10279), (2, .int .i64 x10325), (3, .slice A1 n1 c1), (4, .int .i64 (a1.length : Int)), (5, .bool (decide (x10325 < (a1.length : Int)))), (6, .bool (decide (x10325 < (a1.length : Int)))), (7, undef), (8, undef), (9, undef), (10, undef), (11, undef), (12, undef), (13, undef), (14, undef), (15, undef), (16, undef), (17, undef), (18, .bool false)], ?_⟩
   refine dEnd [0, 1, 2, 3, 4, 5, 6, 7, 8, 9, 10, 11, 12, 13, 14, 15, 16, 17, 18] (by kernel_rfl) ⟨pu rfl rfl [(11, .int .i64 x9597)] (fun ac hA => y_move hA rfl rfl) rfl rfl, pu rfl rfl [(12, .int .i64 x10279)] (fun ac hA => y_move hA rfl rfl) rfl rfl, pu rfl rfl [(53, .int .i64 x9597), (54, .int .i64 x10279)] (fun ac hA => (rv_i h10326 (r_add rfl (hA.ev rfl) (hA.ev rfl)) : RunV _ _ _ _ (.int .i64 x10325))) rfl rfl, pu rfl rfl [(1, .slice A1 n1 c1)] (fun ac hA => y_move hA rfl rfl) rfl rfl, pu rfl rfl [(56, .slice A1 n1 c1)] (fun ac hA => y_len Tryd.underlying90 (hS.rdl 1 ha1 rfl).2.1 hA rfl rfl) rfl rfl, pu rfl rfl [(55, .int .i64 x10325), (57, .int .i64 (a1.length : Int))] (fun ac hA => r_ltI rfl (hA.ev rfl) (hA.ev rfl)) rfl rfl, pu rfl rfl [(58, .bool (decide (x10325 < (a1.length : Int))))] (fun ac hA => y_move hA rfl rfl) rfl rfl, puOff rfl rfl rfl rfl [(1, .slice A1 n1 c1), (59, .bool (decide (x10325 < (a1.length : Int))))] rfl hb10327 rfl, puOff rfl rfl rfl rfl [(11, .int .i64 x9597), (59, .bool (decide (x10325 < (a1.length : Int))))] rfl hb10327 rfl, puOff rfl rfl rfl rfl [(12, .int .i64 x10279), (59, .bool (decide (x10325 < (a1.length : Int))))] rfl hb10327 rfl, puOff rfl rfl rfl rfl [(59, .bool (decide (x10325 < (a1.length : Int)))), (61, undef), (62, undef)] rfl hb10327 rfl, puOff rfl rfl rfl rfl [(59, .bool (decide (x10325 < (a1.length : Int)))), (60, undef), (63, undef)] rfl hb10327 rfl, puOff rfl rfl rfl rfl [(59, .bool (decide (x10325 < (a1.length : Int)))), (64, undef)] rfl hb10327 rfl, puOff rfl rfl rfl rfl [(1, .slice A1 n1 c1), (59, .bool (decide (x10325 < (a1.length : Int))))] rfl hb10327 rfl, puOff rfl rfl rfl rfl [(11, .int .i64 x9597), (59, .bool (decide (x10325 < (a1.length : Int))))] rfl hb10327 rfl, puOff rfl rfl rfl rfl [(59, .bool (decide (x10325 < (a1.length : Int)))), (66, undef), (67, undef)] rfl hb10327 rfl, puOff rfl rfl rfl rfl [(59, .bool (decide (x10325 < (a1.length : Int)))), (68, undef)] rfl hb10327 rfl, puOff rfl rfl rfl rfl [(59, .bool (decide (x10325 < (a1.length : Int)))), (65, undef), (69, undef)] rfl hb10327 rfl, pu rfl rfl [(59, .bool (decide (x10325 < (a1.length : Int)))), (70, undef)] (fun ac hA => y_pickf hb10327 hA rfl rfl rfl) rfl rfl, trivial⟩ ⟨by kernel_rfl, by kernel_rfl⟩ [(1, .slice A1 n1 c1), (5, .slice A9594 n9595 c9596), (11, .int .i64 x9597), (12, .int .i64 x10279), (71, .bool false)] rfl (fun ac hA => ?_)
   exact hj1 false hF ac w (hA.sub _ rfl) hS
  replace hF := iff' hb9974 hF
  refine wp_exit ?_
  cases hF
  exact hx9970_5 l9593 (T9970_ _ rfl) A9594 n9595 c9596 ac w (hA.sub _ rfl) hS
 replace hF := iff' hb8105 hF
 refine ws fun K10334 hK10334 => ?_
 refine x_v hA (r_eqI rfl (hA.ev rfl) (hA.ev rfl)) rfl fun ac hA => ?_
 refine x_m hA rfl fun ac hA => ?_
 refine wn (hK10334 _ _ ?_)
 refine c_if hA rfl (fun hb10335 => ?_) fun hb10335 => ?_
 ·replace hF := ift hb10335 hF
  refine wp_reg ?_
  refine x_m hA rfl fun ac hA => ?_
  refine x_m hA rfl fun ac hA => ?_
  obtain ⟨y10336, h10337, hF⟩ := bnd hF
  refine x_call en83 hA (F_column_pack (L := L) y106 a1 B108 m109 d110 A1 n1 c1 h10337 (RdL.sfx 0 rfl ha1) hS) (fun v ac w hR hA => ?_) rfl rfl rfl rfl rfl
  obtain ⟨B10338, m10339, d10340, rfl, hS⟩ := hR
  refine x_m hA rfl fun ac hA => ?_
  refine wpList_nil ?_
  exact hb1 y10336 hF B10338 m10339 d10340 ac w (hA.sub _ rfl) hS
 replace hF := iff' hb10335 hF
 refine wp_skip ?_
 exact hb1 y106 hF B108 m109 d110 ac w (hA.sub _ rfl) hS
theorem F_column_Ints {r : World} {L : List HP} {w : World} (a0 : (List Int)) (A0 : Option Addr) (n0 : Nat) (c0 : Nat) {y : ((List Int))} (hF : column_Ints a0 = some y) (ha0 : RdL L (kI .i64) A0 n0 c0 a0) (hS : SH r (L) w) :
  Ret Tryd.prog 45 #[.slice A0 n0 c0] w fun v w' => ∃ (B0 : Option Addr) (m0 : Nat) (d0 : Nat), v = .slice B0 m0 d0 ∧ SH r (own (kI .u8) 5 B0 m0 d0 y :: L) w' := by
 refine enter Tryd.func45 rfl Tryd.ntmps45 [(0, .slice A0 n0 c0)] rfl (by simp) ?_
 intro ac hA Qf hQ hQn
 unfold column_Ints at hF
 refine ws fun K101 hK101 => ?_
 refine x_m hA rfl fun ac hA => ?_
 refine wn (hK101 _ _ ?_)
 refine ws fun K102 hK102 => ?_
 refine x_m hA rfl fun ac hA => ?_
 obtain ⟨y103, h104, hF⟩ := bnd hF
 refine x_call en68 hA (F_column_As (L := L) 0 a0 A0 n0 c0 h104 (RdL.sfx 0 rfl ha0) hS) (fun v ac w hR hA => ?_) rfl rfl rfl rfl rfl
 obtain ⟨B105, m106, d107, rfl, hS⟩ := hR
 refine x_m hA rfl fun ac hA => ?_
 refine wn (hK102 _ _ ?_)
 refine wp_seq_k fun K108 hK108 => ?_
 refine ws fun K456 hK456 => ?_
 refine x_m hA rfl fun ac hA => ?_
 refine wn (hK456 _ _ ?_)
 refine wp_block_k fun Kx457 hKx457 => ?_
 have hb1 : ∀ (l628 : (List Int)), column_Ints_b1 l628 = some y → ∀ (A629 : Option Addr) (n630 : Nat) (c631 : Nat) (ac : Act) (w : World), FR 22 [] ac [(3, .slice A629 n630 c631)] → SH r (own (kI .u8) 5 A629 n630 c631 l628 :: L) w → Kx457 ac w := by
  intro l628 hF A629 n630 c631 ac w hA hS
  unfold column_Ints_b1 at hF
  refine hKx457 _ _ ?_
  refine hK108 _ _ ?_
  refine ws fun K632 hK632 => ?_
  refine x_m hA rfl fun ac hA => ?_
  refine x_m hA rfl fun ac hA => ?_
  refine wn (hK632 _ _ ?_)
  refine wp_ret ?_
  cases hF
  refine hQ _ _ ?_
  refine lv Tryd.results45 hA rfl ?_
  exact ⟨A629, n630, c631, rfl, hS⟩
 obtain ⟨t751, hl751, hF⟩ := bnd hF
 have hx751_0 : ∀ (l748 : (List Int)), (l748) = t751 → ∀ (A749 : Option Addr) (n750 : Nat) (c751 : Nat) (ac : Act) (w : World), FR 22 [] ac [(3, .slice A749 n750 c751)] → SH r (own (kI .u8) 5 A749 n750 c751 l748 :: L) w → Kx457 ac w := by
  intro l748 ht A749 n750 c751 ac w hA hS
  subst ht
  replace hF : column_Ints_x1_0 l748 = some y := hF
  unfold column_Ints_x1_0 at hF
  exact hb1 l748 hF A749 n750 c751 ac w (hA.sub _ rfl) hS
 refine wp_loop_fn hl751 (fun s ac w => ∃ (A689 : Option Addr) (n690 : Nat) (c691 : Nat), FR 22 [] ac [(0, .slice A0 n0 c0), (3, .slice A689 n690 c691), (4, .int .u8 s.2)] ∧ SH r (own (kI .u8) 5 A689 n690 c691 s.1 :: L) w) ⟨B105, m106, d107, hA.sub _ rfl, hS⟩ ?_
 intro N751 s751 o751 hF N751_ T751_ ac w hLab
 obtain ⟨l688, x692⟩ := s751
 replace hF : column_Ints_l1 a0 l688 x692 = some o751 := hF
 unfold column_Ints_l1 at hF
 try dsimp only at hLab
 obtain ⟨A689, n690, c691, hA, hS⟩ := hLab
 refine wp_seq_k fun K753 hK753 => ?_
 refine ws fun K754 hK754 => ?_
 refine x_m hA rfl fun ac hA => ?_
 refine x_v hA (r_leI rfl (hA.ev rfl) (hA.ev rfl)) rfl fun ac hA => ?_
 refine wn (hK754 _ _ ?_)
 refine c_if hA rfl (fun hb755 => ?_) fun hb755 => ?_
 ·replace hF := ift hb755 hF
  refine wp_skip ?_
  refine hK753 _ _ ?_
  refine wp_seq_k fun K756 hK756 => ?_
  refine wp_block_k fun Kx779 hKx779 => ?_
  have hb2 : ∀ (l788 : (List Int)), column_Ints_b2 x692 l788 = some o751 → ∀ (A789 : Option Addr) (n790 : Nat) (c791 : Nat) (ac : Act) (w : World), FR 22 [] ac [(0, .slice A0 n0 c0), (3, .slice A789 n790 c791), (4, .int .u8 x692)] → SH r (own (kI .u8) 5 A789 n790 c791 l788 :: L) w → Kx779 ac w := by
   intro l788 hF A789 n790 c791 ac w hA hS
   unfold column_Ints_b2 at hF
   refine hKx779 _ _ ?_
   refine hK756 _ _ ?_
   refine wp_reg ?_
   refine x_m hA rfl fun ac hA => ?_
   obtain ⟨x792, h793, hF⟩ := ltt_ hF
   refine x_v (v := .int .u8 x792) hA (rv_i h793 (r_add rfl (hA.ev rfl) (hA.ev rfl))) rfl fun ac hA => ?_
   refine x_m hA rfl fun ac hA => ?_
   refine wpList_nil ?_
   cases hF
   exact ⟨_, N751_ _ rfl, A789, n790, c791, hA.sub _ rfl, hS⟩
  refine ws fun K794 hK794 => ?_
  refine x_m hA rfl fun ac hA => ?_
  refine x_m hA rfl fun ac hA => ?_
  obtain ⟨y795, h796, hF⟩ := bnd hF
  refine x_call en68 hA (F_column_As (L := own (kI .u8) 5 A689 n690 c691 l688 :: L) x692 a0 A0 n0 c0 h796 (RdL.sfx 1 rfl ha0) hS) (fun v ac w hR hA => ?_) rfl rfl rfl rfl rfl
  obtain ⟨B797, m798, d799, rfl, hS⟩ := hR
  refine x_m hA rfl fun ac hA => ?_
  refine wn (hK794 _ _ ?_)
  refine ws fun K800 hK800 => ?_
  refine x_m hA rfl fun ac hA => ?_
  refine x_len Tryd.underlying24 (hS.rd 0 rfl).2.1 hA (fun ac hA => ?_) rfl rfl rfl rfl rfl
  refine x_m hA rfl fun ac hA => ?_
  refine x_len Tryd.underlying24 (hS.rd 1 rfl).2.1 hA (fun ac hA => ?_) rfl rfl rfl rfl rfl
  refine x_v hA (r_ltI rfl (hA.ev rfl) (hA.ev rfl)) rfl fun ac hA => ?_
  refine wn (hK800 _ _ ?_)
  refine c_if hA rfl (fun hb801 => ?_) fun hb801 => ?_
  ·replace hF := ift hb801 hF
   refine wp_reg ?_
   refine x_m hA rfl fun ac hA => ?_
   refine x_m hA rfl fun ac hA => ?_
   refine wpList_nil ?_
   replace hS := hS.drop 1
   exact hb2 y795 hF B797 m798 d799 ac w (hA.sub _ rfl) hS
  replace hF := iff' hb801 hF
  refine wp_skip ?_
  replace hS := hS.drop 0
  exact hb2 l688 hF A689 n690 c691 ac w (hA.sub _ rfl) hS
 replace hF := iff' hb755 hF
 refine wp_exit ?_
 cases hF
 exact hx751_0 l688 (T751_ _ rfl) A689 n690 c691 ac w (hA.sub _ rfl) hS
end Go.Proofs.YteodeedejjcmgaaDoor.M
namespace Go.Proofs.YteodeedejjcmgaaDoor.M
open Go Go.RowKit Go.Proofs.YteodeedejjcmgaaDoor.E
set_option linter.unusedVariables false
set_option linter.unusedSimpArgs false
theorem catch_pan {r : World} {L : List HP} {g : Nat} {b : Bool} {w : World} (hS : SH r (blk g 4 [.bool b] :: L) w) :
    CallsD Tryd.prog 57 #[.pointer (some ⟨g, 0, none⟩)] (.panicking badC) w fun e u' w' => e = .returned (.tuple #[]) ∧ u' = .panicking [{ v := .iface 102 (.agg #[]), recovered := true }] ∧ SH r (blk g 4 [.bool false] :: L) w' := by
  refine callsD_of_wpS Tryd.func57 rfl fun c₀ cs hu => ?_
  apply wpS_seq
  apply wpS_region
  simp only [List.size_toArray, List.length_cons, List.length_nil, Nat.zero_add]
  rw [show List.range (1 + 1) = [0, 1] from rfl]
  simp [wpOpsS, go_sem, recoverD, hu, badC, Tryd.ntmps57, Exit.thenS]
  generalize hac : ({ tmps := _, defers := _ } : Act) = ac
  have hA : FR 15 [] ac [(0, .pointer (some ⟨g, 0, none⟩)), (1, .iface 102 (.agg #[]))] := by
    subst hac
    refine ⟨by simp, rfl, fun t v hv => ?_⟩
    simp only [lk] at hv
    by_cases e0 : t = 0
    · subst e0; cases hv; rfl
    by_cases e1 : t = 1
    · subst e1; cases hv; rfl
    · exfalso
      rw [show Nat.beq 0 t = false by cases h : Nat.beq 0 t; rfl; exact absurd (Nat.eq_of_beq_eq_true h).symm e0, show Nat.beq 1 t = false by cases h : Nat.beq 1 t; rfl; exact absurd (Nat.eq_of_beq_eq_true h).symm e1] at hv
      cases hv
  clear hac
  refine wpS_of_wp ?_
  have fin : ∀ (a : Act) (w : World), FR 15 [] a [] → SH r (blk g 4 [.bool false] :: L) w → bodyPostS Tryd.prog Tryd.f57 c₀ cs (fun e u' w' => e = .returned (.tuple #[]) ∧ u' = .panicking [{ v := .iface 102 (.agg #[]), recovered := true }] ∧ SH r (blk g 4 [.bool false] :: L) w') .normal a ({ c₀ with mode := .panicking [{ v := .iface 102 (.agg #[]), recovered := true }] } :: cs) w := by
    intro a w hA hS
    exact ⟨hA.defers, _, rfl, _, results_none Tryd.results57 _ _ _, rfl, rfl, hS⟩
  refine wp_seq_k fun K1 h1 => ?_
  refine wp_reg ?_
  refine x_move hA (fun ac hA => ?_)
  refine x_val (v := .bool true) hA (r_neIfNil Tryd.underlying20 rfl (hA.ev rfl) (hA.ev rfl)) (fun ac hA => ?_)
  refine wpList_nil ?_
  refine h1 _ _ ?_
  refine c_t (b := true) rfl hA ?_
  refine wp_seq_k fun K4 h4 => ?_
  refine wp_seq_k fun K2 h2 => ?_
  refine wp_reg ?_
  refine x_move hA (fun ac hA => ?_)
  refine x_val (v := .tuple #[.agg #[], .bool true]) hA (r_typeAssert Tryd.underlying102 rfl rfl (hA.ev rfl)) (fun ac hA => ?_)
  refine x_move hA (fun ac hA => ?_)
  refine x_val hA (r_extract rfl (hA.ev rfl) rfl) (fun ac hA => ?_)
  refine x_val hA (r_extract rfl (hA.ev rfl) rfl) (fun ac hA => ?_)
  refine x_alloc (cs := []) zr102 hA hS (fun g2 ac w hS hA => ?_)
  refine x_stb (vs := []) 0 sz102 hA hS rfl (fun ac w hS hA => ?_)
  refine x_assign hA (fun ac hA => ?_)
  refine wpList_nil ?_
  refine h2 _ _ ?_
  refine wp_seq_k fun K3 h3 => ?_
  refine wp_reg ?_
  refine x_move hA (fun ac hA => ?_)
  refine x_val hA (r_not rfl (hA.ev rfl)) (fun ac hA => ?_)
  refine wpList_nil ?_
  refine h3 _ _ ?_
  refine c_f (b := !true) rfl hA ?_
  refine wp_skip ?_
  refine h4 _ _ ?_
  refine wp_reg ?_
  refine x_stb (vs := [.bool false]) 1 sz4 hA hS rfl (fun ac w hS hA => ?_)
  refine wpList_nil ?_
  have hS' := hS.pk 1
  exact fin _ _ (hA.sub _ rfl) (hS'.tail)
theorem catch_idle {g : Nat} {w : World} :
    CallsD Tryd.prog 57 #[.pointer (some ⟨g, 0, none⟩)] .returning w fun e u' w' => e = .returned (.tuple #[]) ∧ u' = .returning ∧ w' = w := by
  refine callsD_of_wpS Tryd.func57 rfl fun c₀ cs hu => ?_
  apply wpS_seq
  apply wpS_region
  simp only [List.size_toArray, List.length_cons, List.length_nil, Nat.zero_add]
  rw [show List.range (1 + 1) = [0, 1] from rfl]
  simp [wpOpsS, go_sem, recoverD, hu, Tryd.ntmps57, Exit.thenS]
  generalize hac : ({ tmps := _, defers := _ } : Act) = ac
  have hA : FR 15 [] ac [(0, .pointer (some ⟨g, 0, none⟩)), (1, .nilIface)] := by
    subst hac
    refine ⟨by simp, rfl, fun t v hv => ?_⟩
    simp only [lk] at hv
    by_cases e0 : t = 0
    · subst e0; cases hv; rfl
    by_cases e1 : t = 1
    · subst e1; cases hv; rfl
    · exfalso
      rw [show Nat.beq 0 t = false by cases h : Nat.beq 0 t; rfl; exact absurd (Nat.eq_of_beq_eq_true h).symm e0, show Nat.beq 1 t = false by cases h : Nat.beq 1 t; rfl; exact absurd (Nat.eq_of_beq_eq_true h).symm e1] at hv
      cases hv
  clear hac
  refine wpS_of_wp ?_
  refine wp_seq_k fun K1 h1 => ?_
  refine wp_reg ?_
  refine x_move hA (fun ac hA => ?_)
  refine x_val (v := .bool false) hA (r_neNilIf Tryd.underlying20 rfl (hA.ev rfl)) (fun ac hA => ?_)
  refine wpList_nil ?_
  refine h1 _ _ ?_
  refine c_f (b := false) rfl hA ?_
  refine wp_skip ?_
  refine ⟨hA.defers, c₀.mode, rfl, _, results_none Tryd.results57 _ _ _, rfl, hu, rfl⟩
theorem results_bool {r : World} {L : List HP} {w : World} {g : Nat} {b : Bool} {a : Act} {n : Nat} {D : List Deferred} {F : List (Nat × Value)} (hA : FR n D a F) (h1 : lk F 4 = some (.pointer (some ⟨g, 0, none⟩))) (hS : SH r (blk g 4 [.bool b] :: L) w) :
    (results Tryd.f39 a.tmps).run Tryd.prog w = .ok (.bool b) w := by
  have e1 : a.tmps.getD 4 undef = .pointer (some ⟨g, 0, none⟩) := hA.ev (x := .tmp 4) h1
  have e1' : a.tmps[4]?.getD undef = .pointer (some ⟨g, 0, none⟩) := by rw [← Array.getD_eq_getD_getElem?]; exact e1
  have hc := hS.cell 0 rfl 0 (.bool b) rfl
  have hagg : (isAgg 4).run Tryd.prog w = .ok false w := by rw [run_isAgg_flat Tryd.underlying4]; rfl
  have hld : (loadVar 4 ⟨g, 0, none⟩).run Tryd.prog w = .ok (.bool b) w := by simp [loadVar, hagg, hc]
  simp [results, Tryd.results39, e1', asAddr, hld]
section
variable {r : World} {L : List HP} {w : World} {A : Option Addr} {n c f : Nat} {fs caps : Array Value}
theorem try_walk {R : Value → World → Prop} (hf : EN Tryd.prog f) (hS : SH r L w)
    (hret : ∀ g g4 w1, SH r (blk g 106 [.slice A n c] :: blk g4 4 [.bool false] :: L) w1 →
      (Ret Tryd.prog f (fs ++ #[.pointer (some ⟨g, 0, none⟩)] ++ caps) w1 fun v w2 => ∃ L1 A' n' c', SH r (blk g 106 [.slice A' n' c'] :: blk g4 4 [.bool false] :: L1) w2 ∧ ∀ w3, SH r L1 w3 → R (.bool ((n' : Int) == 0)) w3) ∨
      (Calls Tryd.prog f (fs ++ #[.pointer (some ⟨g, 0, none⟩)] ++ caps) w1 fun e w2 => e = .panicked badC ∧ ∃ L1, SH r (blk g4 4 [.bool false] :: L1) w2 ∧ ∀ w3, SH r L1 w3 → R (.bool false) w3)) :
    Ret Tryd.prog 39 #[.slice A n c, .func (.func f) fs caps] w R := by
  refine enterD Tryd.func39 rfl Tryd.ntmps39 [(0, .slice A n c), (1, .func (.func f) fs caps)] rfl (by simp) ?_
  intro ac hA
  refine wp_seq_k fun K0 h0 => ?_
  refine wp_reg ?_
  refine x_alloc (cs := [.bool false]) zr4 hA hS (fun g4 ac w hS hA => ?_)
  refine wpList_nil ?_
  refine h0 _ _ ?_
  refine wp_seq_k fun K1 h1 => ?_
  refine wp_reg ?_
  refine x_val hA (r_makeFunc rfl (mapev (vals := #[]) hA rfl) (mapev (vals := #[.pointer (some ⟨g4, 0, none⟩)]) hA rfl)) (fun ac hA => ?_)
  refine x_defer (vs := #[]) hA (fun ac hA => ?_)
  refine wpList_nil ?_
  refine h1 _ _ ?_
  refine wp_seq_k fun K2 h2 => ?_
  refine wp_reg ?_
  refine x_move hA (fun ac hA => ?_)
  refine x_val (v := .agg #[.slice A n c]) hA (r_build (ps := #[(0, .slice A n c)]) rfl (mapev2 hA rfl) (fun w => by kernel_rfl)) (fun ac hA => ?_)
  refine x_box hA hS (fun g ac w hS hA => ?_)
  refine x_assign hA (fun ac hA => ?_)
  refine wpList_nil ?_
  refine h2 _ _ ?_
  refine wp_seq_k fun K3 h3 => ?_
  refine wp_reg ?_
  refine x_move hA (fun ac hA => ?_)
  refine x_move hA (fun ac hA => ?_)
  rcases hret g g4 w hS with hr | hp
  · refine x_callw (vs := #[.pointer (some ⟨g, 0, none⟩)]) hf hA hr (fun v ac w hR hA => ?_)
    obtain ⟨L1, A', n', c', hS, hR⟩ := hR
    refine wpList_nil ?_
    refine h3 _ _ ?_
    refine wp_seq_k fun K4 h4 => ?_
    refine wp_reg ?_
    refine x_move hA (fun ac hA => ?_)
    refine x_val hA (r_nilCheck rfl (hA.ev rfl)) (fun ac hA => ?_)
    refine x_fab fa106_0 hA (fun ac hA => ?_)
    refine x_ld Tryd.underlying24 (hS.cell 0 rfl 0 _ rfl) hA (fun ac hA => ?_)
    refine x_val hA (r_len Tryd.underlying24 rfl (hA.ev rfl)) (fun ac hA => ?_)
    refine x_val hA (r_eqI rfl (hA.ev rfl) (hA.ev rfl)) (fun ac hA => ?_)
    refine x_stb (vs := [.bool ((n' : Int) == 0)]) 1 sz4 hA hS rfl (fun ac w hS hA => ?_)
    refine wpList_nil ?_
    refine h4 _ _ ?_
    refine wp_ret ?_
    show Leaves _ _ _ _ _ _ _
    rw [hA.defers]
    refine leaves_cons (f := 57) (args := #[.pointer (some ⟨g4, 0, none⟩)]) (by simp) (by simp [invoke, (en57 _ _ : _ = _)]) ?_
    refine CallsD.mono catch_idle ?_
    rintro e u' w' ⟨rfl, rfl, rfl⟩
    exact ⟨_, results_bool hA rfl hS, _, rfl, hR _ (hS.tail.tail)⟩
  · refine x_callp (vs := #[.pointer (some ⟨g, 0, none⟩)]) hf hA hp (fun w hR => ?_)
    obtain ⟨L1, hS, hR⟩ := hR
    show Leaves _ _ _ _ _ _ _
    rw [hA.defers]
    refine leaves_cons (f := 57) (args := #[.pointer (some ⟨g4, 0, none⟩)]) (by simp) (by simp [invoke, (en57 _ _ : _ = _)]) ?_
    refine CallsD.mono (catch_pan hS) ?_
    rintro e u' w' ⟨rfl, rfl, hS⟩
    exact ⟨_, results_bool hA rfl hS, _, rfl, hR _ hS.tail⟩
end
end Go.Proofs.YteodeedejjcmgaaDoor.M
namespace Go.Proofs.YteodeedejjcmgaaDoor.M
open Go Go.RowKit Go.Proofs.YteodeedejjcmgaaDoor.E
set_option linter.unusedVariables false
set_option linter.unusedSimpArgs false
noncomputable def column_Reader_Check (a0 : S106) (a1 : Bool) : Option ((S106) ⊕ (S106)) :=
  if (!a1) = true then (some (.inr a0)) else (some (.inl a0))
noncomputable def column_Reader_Byte (a0 : S106) : Option ((Int × S106) ⊕ (S106)) :=
  (column_Reader_Check a0 (decide (0 < (a0.f0.length : Int)))).bind fun y107 => (sum_ y107 (fun y107 => ((at_ y107.f0 0).bind fun x118 => ((cut_ y107.f0 1 (y107.f0.length : Int)).bind fun l122 => (some (.inl (x118, (⟨l122⟩ : S106))))))) (fun y107 => (some (.inr y107))))
noncomputable def column_Reader_Uint_j2 (x536 : Int) (l573 : (List Int)) : Option (((List Int) × Int × Int) ⊕ (((Int × S106) ⊕ (S106)))) :=
  some (.inr (.inl (x536, (⟨l573⟩ : S106))))
noncomputable def column_Reader_Uint_j1 (a1 : Int) (x293 : Int) (x294 : Int) (y478 : (Int × S106)) (l521 : (List Int)) : Option (((List Int) × Int × Int) ⊕ (((Int × S106) ⊕ (S106)))) :=
  ltt (iand .u8 y478.1 127) fun x527 => (ltt (IntKind.u64.wrap x527) fun x529 => (ltt (IntKind.i64.wrap (7 * x294)) fun x531 => (chk (0 ≤ x531) (ltt (ishl .u64 x529 x531) fun x534 => (ltt (ior .u64 x293 x534) fun x536 => (if (decide (y478.1 < 128)) = true then (if (decide (x536 ≤ a1)) = true then (if (x294 == 0) = true then ((column_Reader_Check (⟨l521⟩ : S106) true).bind fun y581 => (sum_ y581 (fun y581 => (column_Reader_Uint_j2 x536 y581.f0)) (fun y581 => (some (.inr (.inr y581)))))) else ((column_Reader_Check (⟨l521⟩ : S106) (decide (0 < y478.1))).bind fun y591 => (sum_ y591 (fun y591 => (column_Reader_Uint_j2 x536 y591.f0)) (fun y591 => (some (.inr (.inr y591))))))) else ((column_Reader_Check (⟨l521⟩ : S106) false).bind fun y601 => (sum_ y601 (fun y601 => (column_Reader_Uint_j2 x536 y601.f0)) (fun y601 => (some (.inr (.inr y601))))))) else (ltt (IntKind.i64.wrap (x294 + 1)) fun x611 => (some (.inl (l521, x536, x611))))))))))
noncomputable def column_Reader_Uint_l1 (a1 : Int) (l288 : (List Int)) (x293 : Int) (x294 : Int) : Option (((List Int) × Int × Int) ⊕ (((Int × S106) ⊕ (S106)))) :=
  (column_Reader_Byte (⟨l288⟩ : S106)).bind fun y478 => (sum_ y478 (fun y478 => (if (decide (x294 < 9)) = true then ((column_Reader_Check y478.2 true).bind fun y614 => (sum_ y614 (fun y614 => (column_Reader_Uint_j1 a1 x293 x294 y478 y614.f0)) (fun y614 => (some (.inr (.inr y614)))))) else (if (x294 == 9) = true then ((column_Reader_Check y478.2 (decide (y478.1 < 2))).bind fun y625 => (sum_ y625 (fun y625 => (column_Reader_Uint_j1 a1 x293 x294 y478 y625.f0)) (fun y625 => (some (.inr (.inr y625)))))) else ((column_Reader_Check y478.2 false).bind fun y635 => (sum_ y635 (fun y635 => (column_Reader_Uint_j1 a1 x293 x294 y478 y635.f0)) (fun y635 => (some (.inr (.inr y635))))))))) (fun y478 => (some (.inr (.inr y478)))))
noncomputable def column_Reader_Uint (a0 : S106) (a1 : Int) : Option ((Int × S106) ⊕ (S106)) :=
  (loop (fun s => column_Reader_Uint_l1 a1 s.1 s.2.1 s.2.2) (a0.f0, 0, 0)).bind fun t => some t
noncomputable def column_Reader_Int (a0 : S106) : Option ((Int × S106) ⊕ (S106)) :=
  (column_Reader_Uint a0 18446744073709551615).bind fun y107 => (sum_ y107 (fun y107 => (ltt (ishr .u64 y107.1 1) fun x118 => (ltt (IntKind.i64.wrap x118) fun x120 => (ltt (iand .u64 y107.1 1) fun x122 => (ltt (IntKind.i64.wrap x122) fun x124 => (ltt (ixor .i64 x120 (IntKind.i64.wrap (0 - x124))) fun x126 => (some (.inl (x126, y107.2))))))))) (fun y107 => (some (.inr y107))))
noncomputable def column_Reader_Text (a0 : S106) (a1 : Int) : Option (((List UInt8) × S106) ⊕ (S106)) :=
  ltt (IntKind.u64.wrap a1) fun x107 => ((column_Reader_Uint a0 x107).bind fun y109 => (sum_ y109 (fun y109 => (ltt (IntKind.u64.wrap (y109.2.f0.length : Int)) fun x120 => ((column_Reader_Check y109.2 (decide (y109.1 ≤ x120))).bind fun y122 => (sum_ y122 (fun y122 => ((cut_ y122.f0 0 y109.1).bind fun l133 => ((cut_ y122.f0 y109.1 (y122.f0.length : Int)).bind fun l141 => (some (.inl (bts l133, (⟨l141⟩ : S106))))))) (fun y122 => (some (.inr y122))))))) (fun y109 => (some (.inr y109)))))
end Go.Proofs.YteodeedejjcmgaaDoor.M
namespace Go.Proofs.YteodeedejjcmgaaDoor.M
open Go Go.RowKit Go.Proofs.YteodeedejjcmgaaDoor.E
set_option linter.unusedVariables false
set_option maxRecDepth 100000
set_option maxHeartbeats 4000000
set_option linter.unusedSimpArgs false
theorem F_column_Reader_Check {r : World} {L : List HP} {w : World} {Z : Nat → Prop} {wz : World} (a0 : S106) (a1 : Bool) (g0 : Nat) {y : ((S106) ⊕ (S106))} (hF : column_Reader_Check a0 a1 = some y) (qz : Nat) (hZ : L[qz]? = some (zone Z wz)) (hS : SH r (obj106 Z wz g0 a0 :: L) w) :
  RetS Tryd.prog 59 #[.pointer (some ⟨g0, 0, none⟩), .bool a1] w badC y (fun y v w' => v = .tuple #[] ∧ SH r (obj106 Z wz g0 y :: L) w') (fun y w' => SH r (obj106 Z wz g0 y :: L) w') := by
 refine enterS Tryd.func59 rfl Tryd.ntmps59 [(0, .pointer (some ⟨g0, 0, none⟩)), (1, .bool a1)] rfl (by simp) ?_
 intro ac hA Qf hQ hQn hQp
 unfold column_Reader_Check at hF
 obtain ⟨A101, n102, c103, hS⟩ := obj106_open hS
 replace hS := hS.pk 1
 have hQ0 := SH.unpure hS
 clear hS
 obtain ⟨h104, hS⟩ := hQ0
 refine ws fun K105 hK105 => ?_
 refine x_m hA rfl fun ac hA => ?_
 refine x_v hA (r_not rfl (hA.ev rfl)) rfl fun ac hA => ?_
 refine wn (hK105 _ _ ?_)
 refine c_if hA rfl (fun hb106 => ?_) fun hb106 => ?_
 ·replace hF := ift hb106 hF
  refine wp_reg ?_
  refine x_v (v := .agg #[]) hA (r_build (ps := #[]) rfl (mapev2 hA rfl) (fun w => by kernel_rfl)) rfl fun ac hA => ?_
  refine x_v hA (r_makeI Tryd.underlying102 rfl rfl (hA.ev rfl)) rfl fun ac hA => ?_
  refine x_panic hA ?_ rfl rfl rfl
  replace hS := SH.pure_ h104 hS
  replace hS := hS.pk 1
  replace hS := obj106_mk (x := a0) hS
  cases hF
  exact hQp _ rfl _ _ hA.defers hS
 replace hF := iff' hb106 hF
 refine wp_skip ?_
 replace hS := SH.pure_ h104 hS
 replace hS := hS.pk 1
 replace hS := obj106_mk (x := a0) hS
 cases hF
 refine hQn _ rfl _ _ ?_
 refine lv0n Tryd.results59 hA ?_
 exact ⟨rfl, hS⟩
theorem F_column_Reader_Byte {r : World} {L : List HP} {w : World} {Z : Nat → Prop} {wz : World} (a0 : S106) (g0 : Nat) {y : ((Int × S106) ⊕ (S106))} (hF : column_Reader_Byte a0 = some y) (qz : Nat) (hZ : L[qz]? = some (zone Z wz)) (hS : SH r (obj106 Z wz g0 a0 :: L) w) :
  RetS Tryd.prog 76 #[.pointer (some ⟨g0, 0, none⟩)] w badC y (fun y v w' => v = .int .u8 y.1 ∧ SH r (obj106 Z wz g0 y.2 :: L) w') (fun y w' => SH r (obj106 Z wz g0 y :: L) w') := by
 refine enterS Tryd.func76 rfl Tryd.ntmps76 [(0, .pointer (some ⟨g0, 0, none⟩))] rfl (by simp) ?_
 intro ac hA Qf hQ hQn hQp
 unfold column_Reader_Byte at hF
 obtain ⟨A101, n102, c103, hS⟩ := obj106_open hS
 replace hS := hS.pk 1
 have hQ0 := SH.unpure hS
 clear hS
 obtain ⟨h104, hS⟩ := hQ0
 refine ws fun K105 hK105 => ?_
 refine x_m hA rfl fun ac hA => ?_
 refine wn (hK105 _ _ ?_)
 refine ws fun K106 hK106 => ?_
 refine x_m hA rfl fun ac hA => ?_
 refine x_m hA rfl fun ac hA => ?_
 refine x_v hA (r_nilCheck rfl (hA.ev rfl)) rfl fun ac hA => ?_
 refine x_fab fa106_0 hA (fun ac hA => ?_) rfl rfl rfl rfl rfl
 refine x_ld Tryd.underlying24 (hS.cell 0 rfl 0 _ rfl) hA (fun ac hA => ?_) rfl rfl rfl rfl rfl rfl
 refine x_len Tryd.underlying24 (hS.rdl 1 (h104.rdl qz hZ) rfl).2.1 hA (fun ac hA => ?_) rfl rfl rfl rfl rfl
 refine x_v hA (r_gtI rfl (hA.ev rfl) (hA.ev rfl)) rfl fun ac hA => ?_
 replace hS := SH.pure_ h104 hS
 replace hS := hS.pk 1
 replace hS := obj106_mk (x := a0) hS
 obtain ⟨y107, h108, hF⟩ := bnd hF
 rcases y107 with y107 | y107
 rotate_left
 ·replace hF := sum_r hF
  refine x_callp (vs := #[.pointer (some ⟨g0, 0, none⟩), .bool (decide (0 < (a0.f0.length : Int)))]) en59 hA (RetS.rf (F_column_Reader_Check (L := L) a0 (decide (0 < (a0.f0.length : Int))) g0 h108 (qz + 0) hZ hS)) (fun w hR => ?_) rfl rfl rfl rfl rfl
  replace hS := hR
  obtain ⟨A109, n110, c111, hS⟩ := obj106_open hS
  replace hS := hS.pk 1
  have hQ0 := SH.unpure hS
  clear hS
  obtain ⟨h112, hS⟩ := hQ0
  replace hS := SH.pure_ h112 hS
  replace hS := hS.pk 1
  replace hS := obj106_mk (x := y107) hS
  cases hF
  exact hQp _ rfl _ _ hA.defers hS
 replace hF := sum_l hF
 refine x_callw (vs := #[.pointer (some ⟨g0, 0, none⟩), .bool (decide (0 < (a0.f0.length : Int)))]) en59 hA (RetS.lf (F_column_Reader_Check (L := L) a0 (decide (0 < (a0.f0.length : Int))) g0 h108 (qz + 0) hZ hS)) (fun v ac w hR hA => ?_) rfl rfl rfl rfl rfl rfl rfl
 obtain ⟨rfl, hS⟩ := hR
 obtain ⟨A113, n114, c115, hS⟩ := obj106_open hS
 replace hS := hS.pk 1
 have hQ0 := SH.unpure hS
 clear hS
 obtain ⟨h116, hS⟩ := hQ0
 refine wn (hK106 _ _ ?_)
 refine ws fun K117 hK117 => ?_
 refine x_m hA rfl fun ac hA => ?_
 refine x_v hA (r_nilCheck rfl (hA.ev rfl)) rfl fun ac hA => ?_
 refine x_fab fa106_0 hA (fun ac hA => ?_) rfl rfl rfl rfl rfl
 refine x_ld Tryd.underlying24 (hS.cell 0 rfl 0 _ rfl) hA (fun ac hA => ?_) rfl rfl rfl rfl rfl rfl
 obtain ⟨x118, h119, hF⟩ := bnd hF
 refine x_ia Tryd.underlying24 sz5 (hS.rdl 1 (h116.rdl qz hZ) rfl) h119 hA (fun ac hA => ?_) rfl rfl rfl rfl rfl rfl
 obtain ⟨cs, hV, hc120⟩ := el (hS.rdl 1 (h116.rdl qz hZ) rfl) h119
 obtain rfl := hV
 refine x_ld Tryd.underlying5 (hc120 0 _ rfl) hA (fun ac hA => ?_) rfl rfl rfl rfl rfl rfl
 refine x_m hA rfl fun ac hA => ?_
 refine wn (hK117 _ _ ?_)
 refine ws fun K121 hK121 => ?_
 refine x_m hA rfl fun ac hA => ?_
 refine x_m hA rfl fun ac hA => ?_
 refine x_v hA (r_nilCheck rfl (hA.ev rfl)) rfl fun ac hA => ?_
 refine x_fab fa106_0 hA (fun ac hA => ?_) rfl rfl rfl rfl rfl
 refine x_ld Tryd.underlying24 (hS.cell 0 rfl 0 _ rfl) hA (fun ac hA => ?_) rfl rfl rfl rfl rfl rfl
 obtain ⟨l122, h123, hF⟩ := bnd hF
 obtain ⟨A126, n127, c128, e125, h124⟩ := imm_lc h116 h123
 refine x_v (v := .slice A126 n127 c128) hA (rv_e e125 (r_slice_l Tryd.underlying24 sz5 rfl (hA.ev rfl) (hA.ev rfl) (cutq (hS.rdl 1 (h116.rdl qz hZ) rfl) h123).1 (cutq (hS.rdl 1 (h116.rdl qz hZ) rfl) h123).2.2.2.2.2)) rfl fun ac hA => ?_
 refine x_v hA (r_nilCheck rfl (hA.ev rfl)) rfl fun ac hA => ?_
 refine x_fab fa106_0 hA (fun ac hA => ?_) rfl rfl rfl rfl rfl
 refine x_stb 0 sz24 hA hS rfl (fun  ac w hS hA => ?_) rfl rfl rfl rfl rfl rfl rfl rfl
 refine wn (hK121 _ _ ?_)
 refine ws fun K129 hK129 => ?_
 refine x_m hA rfl fun ac hA => ?_
 refine x_m hA rfl fun ac hA => ?_
 refine wn (hK129 _ _ ?_)
 refine wp_ret ?_
 replace hS := SH.pure_ h124 hS
 replace hS := hS.pk 1
 replace hS := obj106_mk (x := (⟨l122⟩ : S106)) hS
 cases hF
 refine hQ _ rfl _ _ ?_
 refine lv Tryd.results76 hA rfl ?_
 exact ⟨rfl, hS⟩
theorem F_column_Reader_Uint {r : World} {L : List HP} {w : World} {Z : Nat → Prop} {wz : World} (a0 : S106) (a1 : Int) (g0 : Nat) {y : ((Int × S106) ⊕ (S106))} (hF : column_Reader_Uint a0 a1 = some y) (qz : Nat) (hZ : L[qz]? = some (zone Z wz)) (hS : SH r (obj106 Z wz g0 a0 :: L) w) :
  RetS Tryd.prog 58 #[.pointer (some ⟨g0, 0, none⟩), .int .u64 a1] w badC y (fun y v w' => v = .int .u64 y.1 ∧ SH r (obj106 Z wz g0 y.2 :: L) w') (fun y w' => SH r (obj106 Z wz g0 y :: L) w') := by
 refine enterS Tryd.func58 rfl Tryd.ntmps58 [(0, .pointer (some ⟨g0, 0, none⟩)), (1, .int .u64 a1)] rfl (by simp) ?_
 intro ac hA Qf hQ hQn hQp
 unfold column_Reader_Uint at hF
 obtain ⟨A101, n102, c103, hS⟩ := obj106_open hS
 replace hS := hS.pk 1
 have hQ0 := SH.unpure hS
 clear hS
 obtain ⟨h104, hS⟩ := hQ0
 refine ws fun K105 hK105 => ?_
 refine x_m hA rfl fun ac hA => ?_
 refine wn (hK105 _ _ ?_)
 refine ws fun K106 hK106 => ?_
 refine x_m hA rfl fun ac hA => ?_
 refine wn (hK106 _ _ ?_)
 refine ws fun K107 hK107 => ?_
 refine x_m hA rfl fun ac hA => ?_
 refine wn (hK107 _ _ ?_)
 refine wp_block_k fun Kx108 hKx108 => ?_
 obtain ⟨t473, hl473, hF⟩ := bnd hF
 have hR473 := hF
 refine wp_loop_fn hl473 (fun s ac w => ∃ (A289 : Option Addr) (n290 : Nat) (c291 : Nat), Imm Z wz (kI .u8) A289 n290 c291 s.1 ∧ FR 48 [] ac [(0, .pointer (some ⟨g0, 0, none⟩)), (1, .int .u64 a1), (5, .int .u64 s.2.1), (6, .int .i64 s.2.2)] ∧ SH r (blk g0 106 [.slice A289 n290 c291] :: L) w) ⟨A101, n102, c103, h104, hA.sub _ rfl, hS⟩ ?_
 intro N473 s473 o473 hF N473_ T473_ ac w hLab
 obtain ⟨l288, x293, x294⟩ := s473
 replace hF : column_Reader_Uint_l1 a1 l288 x293 x294 = some o473 := hF
 unfold column_Reader_Uint_l1 at hF
 try dsimp only at hLab
 obtain ⟨A289, n290, c291, h292, hA, hS⟩ := hLab
 refine wp_seq_k fun K475 hK475 => ?_
 refine wp_block_k fun Kx476 hKx476 => ?_
 refine ws fun K477 hK477 => ?_
 refine x_m hA rfl fun ac hA => ?_
 replace hS := SH.pure_ h292 hS
 replace hS := hS.pk 1
 replace hS := obj106_mk (x := (⟨l288⟩ : S106)) hS
 obtain ⟨y478, h479, hF⟩ := bnd hF
 rcases y478 with y478 | y478
 rotate_left
 ·replace hF := sum_r hF
  refine x_callp (vs := #[.pointer (some ⟨g0, 0, none⟩)]) en76 hA (RetS.rf (F_column_Reader_Byte (L := L) (⟨l288⟩ : S106) g0 h479 (qz + 0) hZ hS)) (fun w hR => ?_) rfl rfl rfl rfl rfl
  replace hS := hR
  obtain ⟨A480, n481, c482, hS⟩ := obj106_open hS
  replace hS := hS.pk 1
  have hQ0 := SH.unpure hS
  clear hS
  obtain ⟨h483, hS⟩ := hQ0
  replace hS := SH.pure_ h483 hS
  replace hS := hS.pk 1
  replace hS := obj106_mk (x := y478) hS
  cases hF
  have ht := T473_ _ rfl
  subst ht
  replace hF := hR473
  replace hF : some (.inr y478) = some y := hF
  cases hF
  exact hQp _ rfl _ _ hA.defers hS
 replace hF := sum_l hF
 refine x_callw (vs := #[.pointer (some ⟨g0, 0, none⟩)]) en76 hA (RetS.lf (F_column_Reader_Byte (L := L) (⟨l288⟩ : S106) g0 h479 (qz + 0) hZ hS)) (fun v ac w hR hA => ?_) rfl rfl rfl rfl rfl rfl rfl
 obtain ⟨rfl, hS⟩ := hR
 obtain ⟨A484, n485, c486, hS⟩ := obj106_open hS
 replace hS := hS.pk 1
 have hQ0 := SH.unpure hS
 clear hS
 obtain ⟨h487, hS⟩ := hQ0
 refine x_m hA rfl fun ac hA => ?_
 refine wn (hK477 _ _ ?_)
 refine wp_seq_k fun K488 hK488 => ?_
 have hj1 : ∀ (l521 : (List Int)), column_Reader_Uint_j1 a1 x293 x294 y478 l521 = some o473 → ∀ (A522 : Option Addr) (n523 : Nat) (c524 : Nat) (h525 : Imm Z wz (kI .u8) A522 n523 c524 l521) (ac : Act) (w : World), FR 48 [] ac [(0, .pointer (some ⟨g0, 0, none⟩)), (1, .int .u64 a1), (5, .int .u64 x293), (6, .int .i64 x294), (7, .int .u8 y478.1)] → SH r (blk g0 106 [.slice A522 n523 c524] :: L) w → K488 ac w := by
  intro l521 hF A522 n523 c524 h525 ac w hA hS
  unfold column_Reader_Uint_j1 at hF
  refine hK488 _ _ ?_
  refine ws fun K526 hK526 => ?_
  refine x_m hA rfl fun ac hA => ?_
  refine x_m hA rfl fun ac hA => ?_
  obtain ⟨x527, h528, hF⟩ := ltt_ hF
  refine x_v (v := .int .u8 x527) hA (rv_i h528 (r_and rfl (hA.ev rfl) (hA.ev rfl))) rfl fun ac hA => ?_
  obtain ⟨x529, h530, hF⟩ := ltt_ hF
  refine x_v (v := .int .u64 x529) hA (rv_i h530 (r_convI Tryd.underlying5 Tryd.underlying31 rfl (hA.ev rfl))) rfl fun ac hA => ?_
  refine x_m hA rfl fun ac hA => ?_
  obtain ⟨x531, h532, hF⟩ := ltt_ hF
  refine x_v (v := .int .i64 x531) hA (rv_i h532 (r_mul rfl (hA.ev rfl) (hA.ev rfl))) rfl fun ac hA => ?_
  obtain ⟨h533, hF⟩ := chk_some hF
  obtain ⟨x534, h535, hF⟩ := ltt_ hF
  refine x_v (v := .int .u64 x534) hA (rv_i h535 (r_shl rfl (hA.ev rfl) (hA.ev rfl) h533)) rfl fun ac hA => ?_
  obtain ⟨x536, h537, hF⟩ := ltt_ hF
  refine x_v (v := .int .u64 x536) hA (rv_i h537 (r_or rfl (hA.ev rfl) (hA.ev rfl))) rfl fun ac hA => ?_
  refine x_m hA rfl fun ac hA => ?_
  refine wn (hK526 _ _ ?_)
  refine ws fun K538 hK538 => ?_
  refine x_m hA rfl fun ac hA => ?_
  refine x_v hA (r_ltI rfl (hA.ev rfl) (hA.ev rfl)) rfl fun ac hA => ?_
  refine wn (hK538 _ _ ?_)
  refine c_if hA rfl (fun hb539 => ?_) fun hb539 => ?_
  ·replace hF := ift hb539 hF
   refine wp_seq_k fun K540 hK540 => ?_
   have hj2 : ∀ (l573 : (List Int)), column_Reader_Uint_j2 x536 l573 = some o473 → ∀ (A574 : Option Addr) (n575 : Nat) (c576 : Nat) (h577 : Imm Z wz (kI .u8) A574 n575 c576 l573) (ac : Act) (w : World), FR 48 [] ac [(0, .pointer (some ⟨g0, 0, none⟩)), (5, .int .u64 x536)] → SH r (blk g0 106 [.slice A574 n575 c576] :: L) w → K540 ac w := by
    intro l573 hF A574 n575 c576 h577 ac w hA hS
    unfold column_Reader_Uint_j2 at hF
    refine hK540 _ _ ?_
    refine ws fun K578 hK578 => ?_
    refine x_m hA rfl fun ac hA => ?_
    refine x_m hA rfl fun ac hA => ?_
    refine wn (hK578 _ _ ?_)
    refine wp_ret ?_
    replace hS := SH.pure_ h577 hS
    replace hS := hS.pk 1
    replace hS := obj106_mk (x := (⟨l573⟩ : S106)) hS
    cases hF
    have ht := T473_ _ rfl
    subst ht
    replace hF := hR473
    replace hF : some (.inl (x536, (⟨l573⟩ : S106))) = some y := hF
    cases hF
    refine hQ _ rfl _ _ ?_
    refine lv Tryd.results58 hA rfl ?_
    exact ⟨rfl, hS⟩
   refine wp_reg ?_
   refine x_m hA rfl fun ac hA => ?_
   refine x_m hA rfl fun ac hA => ?_
   refine x_m hA rfl fun ac hA => ?_
   refine x_v hA (r_leI rfl (hA.ev rfl) (hA.ev rfl)) rfl fun ac hA => ?_
   refine x_m hA rfl fun ac hA => ?_
   refine bcase (b := decide (x536 ≤ a1)) (fun hb579 => ?_) fun hb579 => ?_
   ·replace hF := ift hb579 hF
    refine x_on hb579 hA ?_ rfl rfl rfl
    refine x_m hA rfl fun ac hA => ?_
    refine x_on hb579 hA ?_ rfl rfl rfl
    refine x_v hA (r_eqI rfl (hA.ev rfl) (hA.ev rfl)) rfl fun ac hA => ?_
    refine x_on hb579 hA ?_ rfl rfl rfl
    refine x_m hA rfl fun ac hA => ?_
    refine bcase (b := x294 == 0) (fun hb580 => ?_) fun hb580 => ?_
    ·replace hF := ift hb580 hF
     refine x_off hb580 hA (fun ac hA => ?_) rfl rfl rfl rfl rfl
     refine x_off hb580 hA (fun ac hA => ?_) rfl rfl rfl rfl rfl
     refine x_on hb579 hA ?_ rfl rfl rfl
     refine x_pickt hb580 hA (fun ac hA => ?_) rfl rfl rfl rfl rfl rfl
     refine x_pickt hb579 hA (fun ac hA => ?_) rfl rfl rfl rfl rfl rfl
     replace hS := SH.pure_ h525 hS
     replace hS := hS.pk 1
     replace hS := obj106_mk (x := (⟨l521⟩ : S106)) hS
     obtain ⟨y581, h582, hF⟩ := bnd hF
     rcases y581 with y581 | y581
     rotate_left
     ·replace hF := sum_r hF
      refine x_callp (vs := #[.pointer (some ⟨g0, 0, none⟩), .bool true]) en59 hA (RetS.rf (F_column_Reader_Check (L := L) (⟨l521⟩ : S106) true g0 h582 (qz + 0) hZ hS)) (fun w hR => ?_) rfl rfl rfl rfl rfl
      replace hS := hR
      obtain ⟨A583, n584, c585, hS⟩ := obj106_open hS
      replace hS := hS.pk 1
      have hQ0 := SH.unpure hS
      clear hS
      obtain ⟨h586, hS⟩ := hQ0
      replace hS := SH.pure_ h586 hS
      replace hS := hS.pk 1
      replace hS := obj106_mk (x := y581) hS
      cases hF
      have ht := T473_ _ rfl
      subst ht
      replace hF := hR473
      replace hF : some (.inr y581) = some y := hF
      cases hF
      exact hQp _ rfl _ _ hA.defers hS
     replace hF := sum_l hF
     refine x_callw (vs := #[.pointer (some ⟨g0, 0, none⟩), .bool true]) en59 hA (RetS.lf (F_column_Reader_Check (L := L) (⟨l521⟩ : S106) true g0 h582 (qz + 0) hZ hS)) (fun v ac w hR hA => ?_) rfl rfl rfl rfl rfl rfl rfl
     obtain ⟨rfl, hS⟩ := hR
     obtain ⟨A587, n588, c589, hS⟩ := obj106_open hS
     replace hS := hS.pk 1
     have hQ0 := SH.unpure hS
     clear hS
     obtain ⟨h590, hS⟩ := hQ0
     refine wpList_nil ?_
     exact hj2 y581.f0 hF A587 n588 c589 h590 ac w (hA.sub _ rfl) hS
    replace hF := iff' hb580 hF
    refine x_on hb580 hA ?_ rfl rfl rfl
    refine x_m hA rfl fun ac hA => ?_
    refine x_on hb580 hA ?_ rfl rfl rfl
    refine x_v hA (r_gtI rfl (hA.ev rfl) (hA.ev rfl)) rfl fun ac hA => ?_
    refine x_on hb579 hA ?_ rfl rfl rfl
    refine x_pickf hb580 hA (fun ac hA => ?_) rfl rfl rfl rfl rfl rfl
    refine x_pickt hb579 hA (fun ac hA => ?_) rfl rfl rfl rfl rfl rfl
    replace hS := SH.pure_ h525 hS
    replace hS := hS.pk 1
    replace hS := obj106_mk (x := (⟨l521⟩ : S106)) hS
    obtain ⟨y591, h592, hF⟩ := bnd hF
    rcases y591 with y591 | y591
    rotate_left
    ·replace hF := sum_r hF
     refine x_callp (vs := #[.pointer (some ⟨g0, 0, none⟩), .bool (decide (0 < y478.1))]) en59 hA (RetS.rf (F_column_Reader_Check (L := L) (⟨l521⟩ : S106) (decide (0 < y478.1)) g0 h592 (qz + 0) hZ hS)) (fun w hR => ?_) rfl rfl rfl rfl rfl
     replace hS := hR
     obtain ⟨A593, n594, c595, hS⟩ := obj106_open hS
     replace hS := hS.pk 1
     have hQ0 := SH.unpure hS
     clear hS
     obtain ⟨h596, hS⟩ := hQ0
     replace hS := SH.pure_ h596 hS
     replace hS := hS.pk 1
     replace hS := obj106_mk (x := y591) hS
     cases hF
     have ht := T473_ _ rfl
     subst ht
     replace hF := hR473
     replace hF : some (.inr y591) = some y := hF
     cases hF
     exact hQp _ rfl _ _ hA.defers hS
    replace hF := sum_l hF
    refine x_callw (vs := #[.pointer (some ⟨g0, 0, none⟩), .bool (decide (0 < y478.1))]) en59 hA (RetS.lf (F_column_Reader_Check (L := L) (⟨l521⟩ : S106) (decide (0 < y478.1)) g0 h592 (qz + 0) hZ hS)) (fun v ac w hR hA => ?_) rfl rfl rfl rfl rfl rfl rfl
    obtain ⟨rfl, hS⟩ := hR
    obtain ⟨A597, n598, c599, hS⟩ := obj106_open hS
    replace hS := hS.pk 1
    have hQ0 := SH.unpure hS
    clear hS
    obtain ⟨h600, hS⟩ := hQ0
    refine wpList_nil ?_
    exact hj2 y591.f0 hF A597 n598 c599 h600 ac w (hA.sub _ rfl) hS
   replace hF := iff' hb579 hF
   refine x_off hb579 hA (fun ac hA => ?_) rfl rfl rfl rfl rfl
   refine x_off hb579 hA (fun ac hA => ?_) rfl rfl rfl rfl rfl
   refine x_off hb579 hA (fun ac hA => ?_) rfl rfl rfl rfl rfl
   refine x_offU hA (fun ac hA => ?_) rfl rfl rfl rfl rfl
   refine x_offU hA (fun ac hA => ?_) rfl rfl rfl rfl rfl
   refine x_off hb579 hA (fun ac hA => ?_) rfl rfl rfl rfl rfl
   refine x_pickf hb579 hA (fun ac hA => ?_) rfl rfl rfl rfl rfl rfl
   replace hS := SH.pure_ h525 hS
   replace hS := hS.pk 1
   replace hS := obj106_mk (x := (⟨l521⟩ : S106)) hS
   obtain ⟨y601, h602, hF⟩ := bnd hF
   rcases y601 with y601 | y601
   rotate_left
   ·replace hF := sum_r hF
    refine x_callp (vs := #[.pointer (some ⟨g0, 0, none⟩), .bool false]) en59 hA (RetS.rf (F_column_Reader_Check (L := L) (⟨l521⟩ : S106) false g0 h602 (qz + 0) hZ hS)) (fun w hR => ?_) rfl rfl rfl rfl rfl
    replace hS := hR
    obtain ⟨A603, n604, c605, hS⟩ := obj106_open hS
    replace hS := hS.pk 1
    have hQ0 := SH.unpure hS
    clear hS
    obtain ⟨h606, hS⟩ := hQ0
    replace hS := SH.pure_ h606 hS
    replace hS := hS.pk 1
    replace hS := obj106_mk (x := y601) hS
    cases hF
    have ht := T473_ _ rfl
    subst ht
    replace hF := hR473
    replace hF : some (.inr y601) = some y := hF
    cases hF
    exact hQp _ rfl _ _ hA.defers hS
   replace hF := sum_l hF
   refine x_callw (vs := #[.pointer (some ⟨g0, 0, none⟩), .bool false]) en59 hA (RetS.lf (F_column_Reader_Check (L := L) (⟨l521⟩ : S106) false g0 h602 (qz + 0) hZ hS)) (fun v ac w hR hA => ?_) rfl rfl rfl rfl rfl rfl rfl
   obtain ⟨rfl, hS⟩ := hR
   obtain ⟨A607, n608, c609, hS⟩ := obj106_open hS
   replace hS := hS.pk 1
   have hQ0 := SH.unpure hS
   clear hS
   obtain ⟨h610, hS⟩ := hQ0
   refine wpList_nil ?_
   exact hj2 y601.f0 hF A607 n608 c609 h610 ac w (hA.sub _ rfl) hS
  replace hF := iff' hb539 hF
  refine wp_skip ?_
  refine hKx476 _ _ ?_
  refine hK475 _ _ ?_
  refine wp_reg ?_
  refine x_m hA rfl fun ac hA => ?_
  obtain ⟨x611, h612, hF⟩ := ltt_ hF
  refine x_v (v := .int .i64 x611) hA (rv_i h612 (r_add rfl (hA.ev rfl) (hA.ev rfl))) rfl fun ac hA => ?_
  refine x_m hA rfl fun ac hA => ?_
  refine wpList_nil ?_
  cases hF
  exact ⟨_, N473_ _ rfl, A522, n523, c524, h525, hA.sub _ rfl, hS⟩
 refine wp_reg ?_
 refine x_m hA rfl fun ac hA => ?_
 refine x_m hA rfl fun ac hA => ?_
 refine x_v hA (r_ltI rfl (hA.ev rfl) (hA.ev rfl)) rfl fun ac hA => ?_
 refine x_m hA rfl fun ac hA => ?_
 refine bcase (b := decide (x294 < 9)) (fun hb613 => ?_) fun hb613 => ?_
 ·replace hF := ift hb613 hF
  refine x_off hb613 hA (fun ac hA => ?_) rfl rfl rfl rfl rfl
  refine x_off hb613 hA (fun ac hA => ?_) rfl rfl rfl rfl rfl
  refine x_off hb613 hA (fun ac hA => ?_) rfl rfl rfl rfl rfl
  refine x_offU hA (fun ac hA => ?_) rfl rfl rfl rfl rfl
  refine x_offU hA (fun ac hA => ?_) rfl rfl rfl rfl rfl
  refine x_off hb613 hA (fun ac hA => ?_) rfl rfl rfl rfl rfl
  refine x_pickt hb613 hA (fun ac hA => ?_) rfl rfl rfl rfl rfl rfl
  replace hS := SH.pure_ h487 hS
  replace hS := hS.pk 1
  replace hS := obj106_mk (x := y478.2) hS
  obtain ⟨y614, h615, hF⟩ := bnd hF
  rcases y614 with y614 | y614
  rotate_left
  ·replace hF := sum_r hF
   refine x_callp (vs := #[.pointer (some ⟨g0, 0, none⟩), .bool true]) en59 hA (RetS.rf (F_column_Reader_Check (L := L) y478.2 true g0 h615 (qz + 0) hZ hS)) (fun w hR => ?_) rfl rfl rfl rfl rfl
   replace hS := hR
   obtain ⟨A616, n617, c618, hS⟩ := obj106_open hS
   replace hS := hS.pk 1
   have hQ0 := SH.unpure hS
   clear hS
   obtain ⟨h619, hS⟩ := hQ0
   replace hS := SH.pure_ h619 hS
   replace hS := hS.pk 1
   replace hS := obj106_mk (x := y614) hS
   cases hF
   have ht := T473_ _ rfl
   subst ht
   replace hF := hR473
   replace hF : some (.inr y614) = some y := hF
   cases hF
   exact hQp _ rfl _ _ hA.defers hS
  replace hF := sum_l hF
  refine x_callw (vs := #[.pointer (some ⟨g0, 0, none⟩), .bool true]) en59 hA (RetS.lf (F_column_Reader_Check (L := L) y478.2 true g0 h615 (qz + 0) hZ hS)) (fun v ac w hR hA => ?_) rfl rfl rfl rfl rfl rfl rfl
  obtain ⟨rfl, hS⟩ := hR
  obtain ⟨A620, n621, c622, hS⟩ := obj106_open hS
  replace hS := hS.pk 1
  have hQ0 := SH.unpure hS
  clear hS
  obtain ⟨h623, hS⟩ := hQ0
  refine wpList_nil ?_
  exact hj1 y614.f0 hF A620 n621 c622 h623 ac w (hA.sub _ rfl) hS
 replace hF := iff' hb613 hF
 refine x_on hb613 hA ?_ rfl rfl rfl
 refine x_m hA rfl fun ac hA => ?_
 refine x_on hb613 hA ?_ rfl rfl rfl
 refine x_v hA (r_eqI rfl (hA.ev rfl) (hA.ev rfl)) rfl fun ac hA => ?_
 refine x_on hb613 hA ?_ rfl rfl rfl
 refine x_m hA rfl fun ac hA => ?_
 refine bcase (b := x294 == 9) (fun hb624 => ?_) fun hb624 => ?_
 ·replace hF := ift hb624 hF
  refine x_on hb624 hA ?_ rfl rfl rfl
  refine x_m hA rfl fun ac hA => ?_
  refine x_on hb624 hA ?_ rfl rfl rfl
  refine x_v hA (r_ltI rfl (hA.ev rfl) (hA.ev rfl)) rfl fun ac hA => ?_
  refine x_on hb613 hA ?_ rfl rfl rfl
  refine x_pickt hb624 hA (fun ac hA => ?_) rfl rfl rfl rfl rfl rfl
  refine x_pickf hb613 hA (fun ac hA => ?_) rfl rfl rfl rfl rfl rfl
  replace hS := SH.pure_ h487 hS
  replace hS := hS.pk 1
  replace hS := obj106_mk (x := y478.2) hS
  obtain ⟨y625, h626, hF⟩ := bnd hF
  rcases y625 with y625 | y625
  rotate_left
  ·replace hF := sum_r hF
   refine x_callp (vs := #[.pointer (some ⟨g0, 0, none⟩), .bool (decide (y478.1 < 2))]) en59 hA (RetS.rf (F_column_Reader_Check (L := L) y478.2 (decide (y478.1 < 2)) g0 h626 (qz + 0) hZ hS)) (fun w hR => ?_) rfl rfl rfl rfl rfl
   replace hS := hR
   obtain ⟨A627, n628, c629, hS⟩ := obj106_open hS
   replace hS := hS.pk 1
   have hQ0 := SH.unpure hS
   clear hS
   obtain ⟨h630, hS⟩ := hQ0
   replace hS := SH.pure_ h630 hS
   replace hS := hS.pk 1
   replace hS := obj106_mk (x := y625) hS
   cases hF
   have ht := T473_ _ rfl
   subst ht
   replace hF := hR473
   replace hF : some (.inr y625) = some y := hF
   cases hF
   exact hQp _ rfl _ _ hA.defers hS
  replace hF := sum_l hF
  refine x_callw (vs := #[.pointer (some ⟨g0, 0, none⟩), .bool (decide (y478.1 < 2))]) en59 hA (RetS.lf (F_column_Reader_Check (L := L) y478.2 (decide (y478.1 < 2)) g0 h626 (qz + 0) hZ hS)) (fun v ac w hR hA => ?_) rfl rfl rfl rfl rfl rfl rfl
  obtain ⟨rfl, hS⟩ := hR
  obtain ⟨A631, n632, c633, hS⟩ := obj106_open hS
  replace hS := hS.pk 1
  have hQ0 := SH.unpure hS
  clear hS
  obtain ⟨h634, hS⟩ := hQ0
  refine wpList_nil ?_
  exact hj1 y625.f0 hF A631 n632 c633 h634 ac w (hA.sub _ rfl) hS
 replace hF := iff' hb624 hF
 refine x_off hb624 hA (fun ac hA => ?_) rfl rfl rfl rfl rfl
 refine x_off hb624 hA (fun ac hA => ?_) rfl rfl rfl rfl rfl
 refine x_on hb613 hA ?_ rfl rfl rfl
 refine x_pickf hb624 hA (fun ac hA => ?_) rfl rfl rfl rfl rfl rfl
 refine x_pickf hb613 hA (fun ac hA => ?_) rfl rfl rfl rfl rfl rfl
 replace hS := SH.pure_ h487 hS
 replace hS := hS.pk 1
 replace hS := obj106_mk (x := y478.2) hS
 obtain ⟨y635, h636, hF⟩ := bnd hF
 rcases y635 with y635 | y635
 rotate_left
 ·replace hF := sum_r hF
  refine x_callp (vs := #[.pointer (some ⟨g0, 0, none⟩), .bool false]) en59 hA (RetS.rf (F_column_Reader_Check (L := L) y478.2 false g0 h636 (qz + 0) hZ hS)) (fun w hR => ?_) rfl rfl rfl rfl rfl
  replace hS := hR
  obtain ⟨A637, n638, c639, hS⟩ := obj106_open hS
  replace hS := hS.pk 1
  have hQ0 := SH.unpure hS
  clear hS
  obtain ⟨h640, hS⟩ := hQ0
  replace hS := SH.pure_ h640 hS
  replace hS := hS.pk 1
  replace hS := obj106_mk (x := y635) hS
  cases hF
  have ht := T473_ _ rfl
  subst ht
  replace hF := hR473
  replace hF : some (.inr y635) = some y := hF
  cases hF
  exact hQp _ rfl _ _ hA.defers hS
 replace hF := sum_l hF
 refine x_callw (vs := #[.pointer (some ⟨g0, 0, none⟩), .bool false]) en59 hA (RetS.lf (F_column_Reader_Check (L := L) y478.2 false g0 h636 (qz + 0) hZ hS)) (fun v ac w hR hA => ?_) rfl rfl rfl rfl rfl rfl rfl
 obtain ⟨rfl, hS⟩ := hR
 obtain ⟨A641, n642, c643, hS⟩ := obj106_open hS
 replace hS := hS.pk 1
 have hQ0 := SH.unpure hS
 clear hS
 obtain ⟨h644, hS⟩ := hQ0
 refine wpList_nil ?_
 exact hj1 y635.f0 hF A641 n642 c643 h644 ac w (hA.sub _ rfl) hS
theorem F_column_Reader_Int {r : World} {L : List HP} {w : World} {Z : Nat → Prop} {wz : World} (a0 : S106) (g0 : Nat) {y : ((Int × S106) ⊕ (S106))} (hF : column_Reader_Int a0 = some y) (qz : Nat) (hZ : L[qz]? = some (zone Z wz)) (hS : SH r (obj106 Z wz g0 a0 :: L) w) :
  RetS Tryd.prog 60 #[.pointer (some ⟨g0, 0, none⟩)] w badC y (fun y v w' => v = .int .i64 y.1 ∧ SH r (obj106 Z wz g0 y.2 :: L) w') (fun y w' => SH r (obj106 Z wz g0 y :: L) w') := by
 refine enterS Tryd.func60 rfl Tryd.ntmps60 [(0, .pointer (some ⟨g0, 0, none⟩))] rfl (by simp) ?_
 intro ac hA Qf hQ hQn hQp
 unfold column_Reader_Int at hF
 obtain ⟨A101, n102, c103, hS⟩ := obj106_open hS
 replace hS := hS.pk 1
 have hQ0 := SH.unpure hS
 clear hS
 obtain ⟨h104, hS⟩ := hQ0
 refine ws fun K105 hK105 => ?_
 refine x_m hA rfl fun ac hA => ?_
 refine wn (hK105 _ _ ?_)
 refine ws fun K106 hK106 => ?_
 refine x_m hA rfl fun ac hA => ?_
 replace hS := SH.pure_ h104 hS
 replace hS := hS.pk 1
 replace hS := obj106_mk (x := a0) hS
 obtain ⟨y107, h108, hF⟩ := bnd hF
 rcases y107 with y107 | y107
 rotate_left
 ·replace hF := sum_r hF
  refine x_callp (vs := #[.pointer (some ⟨g0, 0, none⟩), .int .u64 18446744073709551615]) en58 hA (RetS.rf (F_column_Reader_Uint (L := L) a0 18446744073709551615 g0 h108 (qz + 0) hZ hS)) (fun w hR => ?_) rfl rfl rfl rfl rfl
  replace hS := hR
  obtain ⟨A109, n110, c111, hS⟩ := obj106_open hS
  replace hS := hS.pk 1
  have hQ0 := SH.unpure hS
  clear hS
  obtain ⟨h112, hS⟩ := hQ0
  replace hS := SH.pure_ h112 hS
  replace hS := hS.pk 1
  replace hS := obj106_mk (x := y107) hS
  cases hF
  exact hQp _ rfl _ _ hA.defers hS
 replace hF := sum_l hF
 refine x_callw (vs := #[.pointer (some ⟨g0, 0, none⟩), .int .u64 18446744073709551615]) en58 hA (RetS.lf (F_column_Reader_Uint (L := L) a0 18446744073709551615 g0 h108 (qz + 0) hZ hS)) (fun v ac w hR hA => ?_) rfl rfl rfl rfl rfl rfl rfl
 obtain ⟨rfl, hS⟩ := hR
 obtain ⟨A113, n114, c115, hS⟩ := obj106_open hS
 replace hS := hS.pk 1
 have hQ0 := SH.unpure hS
 clear hS
 obtain ⟨h116, hS⟩ := hQ0
 refine x_m hA rfl fun ac hA => ?_
 refine wn (hK106 _ _ ?_)
 refine ws fun K117 hK117 => ?_
 refine x_m hA rfl fun ac hA => ?_
 obtain ⟨x118, h119, hF⟩ := ltt_ hF
 refine x_v (v := .int .u64 x118) hA (rv_i h119 (r_shr rfl (hA.ev rfl) (hA.ev rfl) (by decide))) rfl fun ac hA => ?_
 obtain ⟨x120, h121, hF⟩ := ltt_ hF
 refine x_v (v := .int .i64 x120) hA (rv_i h121 (r_convI Tryd.underlying31 Tryd.underlying2 rfl (hA.ev rfl))) rfl fun ac hA => ?_
 refine x_m hA rfl fun ac hA => ?_
 obtain ⟨x122, h123, hF⟩ := ltt_ hF
 refine x_v (v := .int .u64 x122) hA (rv_i h123 (r_and rfl (hA.ev rfl) (hA.ev rfl))) rfl fun ac hA => ?_
 obtain ⟨x124, h125, hF⟩ := ltt_ hF
 refine x_v (v := .int .i64 x124) hA (rv_i h125 (r_convI Tryd.underlying31 Tryd.underlying2 rfl (hA.ev rfl))) rfl fun ac hA => ?_
 refine x_v hA (r_neg rfl (hA.ev rfl)) rfl fun ac hA => ?_
 obtain ⟨x126, h127, hF⟩ := ltt_ hF
 refine x_v (v := .int .i64 x126) hA (rv_i h127 (r_xor rfl (hA.ev rfl) (hA.ev rfl))) rfl fun ac hA => ?_
 refine x_m hA rfl fun ac hA => ?_
 refine wn (hK117 _ _ ?_)
 refine wp_ret ?_
 replace hS := SH.pure_ h116 hS
 replace hS := hS.pk 1
 replace hS := obj106_mk (x := y107.2) hS
 cases hF
 refine hQ _ rfl _ _ ?_
 refine lv Tryd.results60 hA rfl ?_
 exact ⟨rfl, hS⟩
theorem F_column_Reader_Text {r : World} {L : List HP} {w : World} {Z : Nat → Prop} {wz : World} (a0 : S106) (a1 : Int) (g0 : Nat) {y : (((List UInt8) × S106) ⊕ (S106))} (hF : column_Reader_Text a0 a1 = some y) (qz : Nat) (hZ : L[qz]? = some (zone Z wz)) (hS : SH r (obj106 Z wz g0 a0 :: L) w) :
  RetS Tryd.prog 61 #[.pointer (some ⟨g0, 0, none⟩), .int .i64 a1] w badC y (fun y v w' => v = str y.1 ∧ SH r (obj106 Z wz g0 y.2 :: L) w') (fun y w' => SH r (obj106 Z wz g0 y :: L) w') := by
 refine enterS Tryd.func61 rfl Tryd.ntmps61 [(0, .pointer (some ⟨g0, 0, none⟩)), (1, .int .i64 a1)] rfl (by simp) ?_
 intro ac hA Qf hQ hQn hQp
 unfold column_Reader_Text at hF
 obtain ⟨A101, n102, c103, hS⟩ := obj106_open hS
 replace hS := hS.pk 1
 have hQ0 := SH.unpure hS
 clear hS
 obtain ⟨h104, hS⟩ := hQ0
 refine ws fun K105 hK105 => ?_
 refine x_m hA rfl fun ac hA => ?_
 refine wn (hK105 _ _ ?_)
 refine ws fun K106 hK106 => ?_
 refine x_m hA rfl fun ac hA => ?_
 refine x_m hA rfl fun ac hA => ?_
 obtain ⟨x107, h108, hF⟩ := ltt_ hF
 refine x_v (v := .int .u64 x107) hA (rv_i h108 (r_convI Tryd.underlying3 Tryd.underlying31 rfl (hA.ev rfl))) rfl fun ac hA => ?_
 replace hS := SH.pure_ h104 hS
 replace hS := hS.pk 1
 replace hS := obj106_mk (x := a0) hS
 obtain ⟨y109, h110, hF⟩ := bnd hF
 rcases y109 with y109 | y109
 rotate_left
 ·replace hF := sum_r hF
  refine x_callp (vs := #[.pointer (some ⟨g0, 0, none⟩), .int .u64 x107]) en58 hA (RetS.rf (F_column_Reader_Uint (L := L) a0 x107 g0 h110 (qz + 0) hZ hS)) (fun w hR => ?_) rfl rfl rfl rfl rfl
  replace hS := hR
  obtain ⟨A111, n112, c113, hS⟩ := obj106_open hS
  replace hS := hS.pk 1
  have hQ0 := SH.unpure hS
  clear hS
  obtain ⟨h114, hS⟩ := hQ0
  replace hS := SH.pure_ h114 hS
  replace hS := hS.pk 1
  replace hS := obj106_mk (x := y109) hS
  cases hF
  exact hQp _ rfl _ _ hA.defers hS
 replace hF := sum_l hF
 refine x_callw (vs := #[.pointer (some ⟨g0, 0, none⟩), .int .u64 x107]) en58 hA (RetS.lf (F_column_Reader_Uint (L := L) a0 x107 g0 h110 (qz + 0) hZ hS)) (fun v ac w hR hA => ?_) rfl rfl rfl rfl rfl rfl rfl
 obtain ⟨rfl, hS⟩ := hR
 obtain ⟨A115, n116, c117, hS⟩ := obj106_open hS
 replace hS := hS.pk 1
 have hQ0 := SH.unpure hS
 clear hS
 obtain ⟨h118, hS⟩ := hQ0
 refine x_m hA rfl fun ac hA => ?_
 refine wn (hK106 _ _ ?_)
 refine ws fun K119 hK119 => ?_
 refine x_m hA rfl fun ac hA => ?_
 refine x_m hA rfl fun ac hA => ?_
 refine x_m hA rfl fun ac hA => ?_
 refine x_v hA (r_nilCheck rfl (hA.ev rfl)) rfl fun ac hA => ?_
 refine x_fab fa106_0 hA (fun ac hA => ?_) rfl rfl rfl rfl rfl
 refine x_ld Tryd.underlying24 (hS.cell 0 rfl 0 _ rfl) hA (fun ac hA => ?_) rfl rfl rfl rfl rfl rfl
 refine x_len Tryd.underlying24 (hS.rdl 1 (h118.rdl qz hZ) rfl).2.1 hA (fun ac hA => ?_) rfl rfl rfl rfl rfl
 obtain ⟨x120, h121, hF⟩ := ltt_ hF
 refine x_v (v := .int .u64 x120) hA (rv_i h121 (r_convI Tryd.underlying3 Tryd.underlying31 rfl (hA.ev rfl))) rfl fun ac hA => ?_
 refine x_v hA (r_leI rfl (hA.ev rfl) (hA.ev rfl)) rfl fun ac hA => ?_
 replace hS := SH.pure_ h118 hS
 replace hS := hS.pk 1
 replace hS := obj106_mk (x := y109.2) hS
 obtain ⟨y122, h123, hF⟩ := bnd hF
 rcases y122 with y122 | y122
 rotate_left
 ·replace hF := sum_r hF
  refine x_callp (vs := #[.pointer (some ⟨g0, 0, none⟩), .bool (decide (y109.1 ≤ x120))]) en59 hA (RetS.rf (F_column_Reader_Check (L := L) y109.2 (decide (y109.1 ≤ x120)) g0 h123 (qz + 0) hZ hS)) (fun w hR => ?_) rfl rfl rfl rfl rfl
  replace hS := hR
  obtain ⟨A124, n125, c126, hS⟩ := obj106_open hS
  replace hS := hS.pk 1
  have hQ0 := SH.unpure hS
  clear hS
  obtain ⟨h127, hS⟩ := hQ0
  replace hS := SH.pure_ h127 hS
  replace hS := hS.pk 1
  replace hS := obj106_mk (x := y122) hS
  cases hF
  exact hQp _ rfl _ _ hA.defers hS
 replace hF := sum_l hF
 refine x_callw (vs := #[.pointer (some ⟨g0, 0, none⟩), .bool (decide (y109.1 ≤ x120))]) en59 hA (RetS.lf (F_column_Reader_Check (L := L) y109.2 (decide (y109.1 ≤ x120)) g0 h123 (qz + 0) hZ hS)) (fun v ac w hR hA => ?_) rfl rfl rfl rfl rfl rfl rfl
 obtain ⟨rfl, hS⟩ := hR
 obtain ⟨A128, n129, c130, hS⟩ := obj106_open hS
 replace hS := hS.pk 1
 have hQ0 := SH.unpure hS
 clear hS
 obtain ⟨h131, hS⟩ := hQ0
 refine wn (hK119 _ _ ?_)
 refine ws fun K132 hK132 => ?_
 refine x_m hA rfl fun ac hA => ?_
 refine x_v hA (r_nilCheck rfl (hA.ev rfl)) rfl fun ac hA => ?_
 refine x_fab fa106_0 hA (fun ac hA => ?_) rfl rfl rfl rfl rfl
 refine x_ld Tryd.underlying24 (hS.cell 0 rfl 0 _ rfl) hA (fun ac hA => ?_) rfl rfl rfl rfl rfl rfl
 refine x_m hA rfl fun ac hA => ?_
 obtain ⟨l133, h134, hF⟩ := bnd hF
 obtain ⟨A137, n138, c139, e136, h135⟩ := imm_hc h131 h134
 refine x_v (v := .slice A137 n138 c139) hA (rv_e e136 (r_slice_h Tryd.underlying24 sz5 rfl (hA.ev rfl) (hA.ev rfl) (cutq (hS.rdl 1 (h131.rdl qz hZ) rfl) h134).2.2.2.2.1 (cutq (hS.rdl 1 (h131.rdl qz hZ) rfl) h134).2.2.1)) rfl fun ac hA => ?_
 refine x_b2s Tryd.underlying24 Tryd.underlying5 Tryd.underlying9 (hS.rdl 1 (h135.rdl qz hZ) rfl) hA (fun ac hA => ?_) rfl rfl rfl rfl rfl
 refine x_m hA rfl fun ac hA => ?_
 refine wn (hK132 _ _ ?_)
 refine ws fun K140 hK140 => ?_
 refine x_m hA rfl fun ac hA => ?_
 refine x_m hA rfl fun ac hA => ?_
 refine x_v hA (r_nilCheck rfl (hA.ev rfl)) rfl fun ac hA => ?_
 refine x_fab fa106_0 hA (fun ac hA => ?_) rfl rfl rfl rfl rfl
 refine x_ld Tryd.underlying24 (hS.cell 0 rfl 0 _ rfl) hA (fun ac hA => ?_) rfl rfl rfl rfl rfl rfl
 refine x_m hA rfl fun ac hA => ?_
 obtain ⟨l141, h142, hF⟩ := bnd hF
 obtain ⟨A145, n146, c147, e144, h143⟩ := imm_lc h131 h142
 refine x_v (v := .slice A145 n146 c147) hA (rv_e e144 (r_slice_l Tryd.underlying24 sz5 rfl (hA.ev rfl) (hA.ev rfl) (cutq (hS.rdl 1 (h131.rdl qz hZ) rfl) h142).1 (cutq (hS.rdl 1 (h131.rdl qz hZ) rfl) h142).2.2.2.2.2)) rfl fun ac hA => ?_
 refine x_v hA (r_nilCheck rfl (hA.ev rfl)) rfl fun ac hA => ?_
 refine x_fab fa106_0 hA (fun ac hA => ?_) rfl rfl rfl rfl rfl
 refine x_stb 0 sz24 hA hS rfl (fun  ac w hS hA => ?_) rfl rfl rfl rfl rfl rfl rfl rfl
 refine wn (hK140 _ _ ?_)
 refine ws fun K148 hK148 => ?_
 refine x_m hA rfl fun ac hA => ?_
 refine x_m hA rfl fun ac hA => ?_
 refine wn (hK148 _ _ ?_)
 refine wp_ret ?_
 replace hS := SH.pure_ h143 hS
 replace hS := hS.pk 1
 replace hS := obj106_mk (x := (⟨l141⟩ : S106)) hS
 cases hF
 refine hQ _ rfl _ _ ?_
 refine lv Tryd.results61 hA rfl ?_
 exact ⟨rfl, hS⟩
end Go.Proofs.YteodeedejjcmgaaDoor.M
namespace Go.Proofs.YteodeedejjcmgaaDoor.M
open Go Go.RowKit Go.Proofs.YteodeedejjcmgaaDoor.E
set_option linter.unusedVariables false
set_option linter.unusedSimpArgs false
noncomputable def math_IsNaN (a0 : Nat) : Option (Bool) :=
  some (!feq a0 a0)
noncomputable def real_Canon (a0 : Nat) : Option (Nat) :=
  (math_IsNaN a0).bind fun y104 => (if y104 = true then (some ((9221120237041090560 : Int).toNat)) else (some a0))
noncomputable def real_Bits (a0 : Nat) : Option (Int) :=
  (real_Canon a0).bind fun y103 => (some (y103 : Int))
end Go.Proofs.YteodeedejjcmgaaDoor.M
namespace Go.Proofs.YteodeedejjcmgaaDoor.M
open Go Go.RowKit Go.Proofs.YteodeedejjcmgaaDoor.E
set_option linter.unusedVariables false
set_option maxRecDepth 100000
set_option maxHeartbeats 4000000
set_option linter.unusedSimpArgs false
theorem F_math_IsNaN {r : World} {L : List HP} {w : World} (a0 : Nat) {y : (Bool)} (hF : math_IsNaN a0 = some y) (hS : SH r (L) w) :
  Ret Tryd.prog 102 #[.float .f64 a0] w fun v w' => v = .bool y ∧ SH r (L) w' := by
 refine enter Tryd.func102 rfl Tryd.ntmps102 [(0, .float .f64 a0)] rfl (by simp) ?_
 intro ac hA Qf hQ hQn
 unfold math_IsNaN at hF
 refine ws fun K101 hK101 => ?_
 refine x_m hA rfl fun ac hA => ?_
 refine wn (hK101 _ _ ?_)
 refine ws fun K102 hK102 => ?_
 refine x_m hA rfl fun ac hA => ?_
 refine x_m hA rfl fun ac hA => ?_
 refine x_v hA (r_neF rfl (hA.ev rfl) (hA.ev rfl)) rfl fun ac hA => ?_
 refine x_m hA rfl fun ac hA => ?_
 refine wn (hK102 _ _ ?_)
 refine wp_ret ?_
 cases hF
 refine hQ _ _ ?_
 refine lv Tryd.results102 hA rfl ?_
 exact ⟨rfl, hS⟩
theorem F_real_Canon {r : World} {L : List HP} {w : World} (a0 : Nat) {y : (Nat)} (hF : real_Canon a0 = some y) (hS : SH r (L) w) :
  Ret Tryd.prog 90 #[.float .f64 a0] w fun v w' => v = .float .f64 y ∧ SH r (L) w' := by
 refine enter Tryd.func90 rfl Tryd.ntmps90 [(0, .float .f64 a0)] rfl (by simp) ?_
 intro ac hA Qf hQ hQn
 unfold real_Canon at hF
 refine ws fun K101 hK101 => ?_
 refine x_m hA rfl fun ac hA => ?_
 refine wn (hK101 _ _ ?_)
 refine wp_seq_k fun K102 hK102 => ?_
 refine ws fun K103 hK103 => ?_
 refine x_m hA rfl fun ac hA => ?_
 obtain ⟨y104, h105, hF⟩ := bnd hF
 refine x_call en102 hA (F_math_IsNaN (L := L) a0 h105 hS) (fun v ac w hR hA => ?_) rfl rfl rfl rfl rfl
 obtain ⟨rfl, hS⟩ := hR
 refine wn (hK103 _ _ ?_)
 refine c_if hA rfl (fun hb106 => ?_) fun hb106 => ?_
 ·replace hF := ift hb106 hF
  refine ws fun K107 hK107 => ?_
  refine x_v hA (r_ext (ex95 _) rfl (evs hA rfl)) rfl fun ac hA => ?_
  refine x_m hA rfl fun ac hA => ?_
  refine wn (hK107 _ _ ?_)
  refine wp_ret ?_
  cases hF
  refine hQ _ _ ?_
  refine lv Tryd.results90 hA rfl ?_
  exact ⟨rfl, hS⟩
 replace hF := iff' hb106 hF
 refine wp_skip ?_
 refine hK102 _ _ ?_
 refine ws fun K108 hK108 => ?_
 refine x_m hA rfl fun ac hA => ?_
 refine x_m hA rfl fun ac hA => ?_
 refine wn (hK108 _ _ ?_)
 refine wp_ret ?_
 cases hF
 refine hQ _ _ ?_
 refine lv Tryd.results90 hA rfl ?_
 exact ⟨rfl, hS⟩
theorem F_real_Bits {r : World} {L : List HP} {w : World} (a0 : Nat) {y : (Int)} (hF : real_Bits a0 = some y) (hS : SH r (L) w) :
  Ret Tryd.prog 73 #[.float .f64 a0] w fun v w' => v = .int .u64 y ∧ SH r (L) w' := by
 refine enter Tryd.func73 rfl Tryd.ntmps73 [(0, .float .f64 a0)] rfl (by simp) ?_
 intro ac hA Qf hQ hQn
 unfold real_Bits at hF
 refine ws fun K101 hK101 => ?_
 refine x_m hA rfl fun ac hA => ?_
 refine wn (hK101 _ _ ?_)
 refine ws fun K102 hK102 => ?_
 refine x_m hA rfl fun ac hA => ?_
 obtain ⟨y103, h104, hF⟩ := bnd hF
 refine x_call en90 hA (F_real_Canon (L := L) a0 h104 hS) (fun v ac w hR hA => ?_) rfl rfl rfl rfl rfl
 obtain ⟨rfl, hS⟩ := hR
 refine x_v hA (r_ext (ex89 _) rfl (evs hA rfl)) rfl fun ac hA => ?_
 refine x_m hA rfl fun ac hA => ?_
 refine wn (hK102 _ _ ?_)
 refine wp_ret ?_
 cases hF
 refine hQ _ _ ?_
 refine lv Tryd.results73 hA rfl ?_
 exact ⟨rfl, hS⟩
end Go.Proofs.YteodeedejjcmgaaDoor.M
namespace Go.Proofs.YteodeedejjcmgaaDoor.M
open Go Go.RowKit Go.Proofs.YteodeedejjcmgaaDoor.E
set_option linter.unusedVariables false
set_option linter.unusedSimpArgs false
noncomputable def column_Reals_b1 (l377 : (List Int)) : Option ((List Int)) :=
  (column_Ints l377).bind fun y382 => (some y382)
noncomputable def column_Reals_x1_0 (l450 : (List Int)) : Option ((List Int)) :=
  column_Reals_b1 l450
noncomputable def column_Reals_l1 (a0 : (List Nat)) (l420 : (List Int)) (x424 : Int) : Option (((List Int) × Int) ⊕ (((List Int)))) :=
  if (decide (x424 < (a0.length : Int))) = true then ((at_ a0 x424).bind fun x461 => ((real_Bits x461).bind fun y464 => (ltt (IntKind.i64.wrap y464) fun x466 => (chk (l420.length + [x466].length ≤ 140737488355328 / 8) (ltt (IntKind.i64.wrap (x424 + 1)) fun x473 => (some (.inl (l420 ++ [x466], x473)))))))) else (some (.inr (l420)))
noncomputable def column_Reals (a0 : (List Nat)) : Option ((List Int)) :=
  (loop (fun s => column_Reals_l1 a0 s.1 s.2) ([], 0)).bind fun t => column_Reals_x1_0 t
end Go.Proofs.YteodeedejjcmgaaDoor.M
namespace Go.Proofs.YteodeedejjcmgaaDoor.M
open Go Go.RowKit Go.Proofs.YteodeedejjcmgaaDoor.E
set_option linter.unusedVariables false
set_option maxRecDepth 100000
set_option maxHeartbeats 4000000
set_option linter.unusedSimpArgs false
theorem F_column_Reals {r : World} {L : List HP} {w : World} (a0 : (List Nat)) (A0 : Option Addr) (n0 : Nat) (c0 : Nat) {y : ((List Int))} (hF : column_Reals a0 = some y) (ha0 : RdL L kF A0 n0 c0 a0) (hS : SH r (L) w) :
  Ret Tryd.prog 47 #[.slice A0 n0 c0] w fun v w' => ∃ (B0 : Option Addr) (m0 : Nat) (d0 : Nat), v = .slice B0 m0 d0 ∧ SH r (own (kI .u8) 5 B0 m0 d0 y :: L) w' := by
 refine enter Tryd.func47 rfl Tryd.ntmps47 [(0, .slice A0 n0 c0)] rfl (by simp) ?_
 intro ac hA Qf hQ hQn
 unfold column_Reals at hF
 refine ws fun K101 hK101 => ?_
 refine x_m hA rfl fun ac hA => ?_
 refine wn (hK101 _ _ ?_)
 refine ws fun K102 hK102 => ?_
 refine x_m hA rfl fun ac hA => ?_
 refine wn (hK102 _ _ ?_)
 refine wp_seq_k fun K103 hK103 => ?_
 refine ws fun K287 hK287 => ?_
 refine x_m hA rfl fun ac hA => ?_
 refine x_len Tryd.underlying92 (hS.rdl 0 ha0 rfl).2.1 hA (fun ac hA => ?_) rfl rfl rfl rfl rfl
 refine x_m hA rfl fun ac hA => ?_
 refine wn (hK287 _ _ ?_)
 refine wp_block_k fun Kx288 hKx288 => ?_
 have hb1 : ∀ (l377 : (List Int)), column_Reals_b1 l377 = some y → ∀ (A378 : Option Addr) (n379 : Nat) (c380 : Nat) (ac : Act) (w : World), FR 21 [] ac [(3, .slice A378 n379 c380)] → SH r (own (kI .i64) 2 A378 n379 c380 l377 :: L) w → Kx288 ac w := by
  intro l377 hF A378 n379 c380 ac w hA hS
  unfold column_Reals_b1 at hF
  refine hKx288 _ _ ?_
  refine hK103 _ _ ?_
  refine ws fun K381 hK381 => ?_
  refine x_m hA rfl fun ac hA => ?_
  obtain ⟨y382, h383, hF⟩ := bnd hF
  refine x_call en45 hA (F_column_Ints (L := own (kI .i64) 2 A378 n379 c380 l377 :: L) l377 A378 n379 c380 h383 (RdL.own 0 rfl (hS.dropN 0)) hS) (fun v ac w hR hA => ?_) rfl rfl rfl rfl rfl
  obtain ⟨B384, m385, d386, rfl, hS⟩ := hR
  refine x_m hA rfl fun ac hA => ?_
  refine wn (hK381 _ _ ?_)
  refine wp_ret ?_
  replace hS := hS.drop 1
  cases hF
  refine hQ _ _ ?_
  refine lv Tryd.results47 hA rfl ?_
  exact ⟨B384, m385, d386, rfl, hS⟩
 obtain ⟨t453, hl453, hF⟩ := bnd hF
 have hx453_0 : ∀ (l450 : (List Int)), (l450) = t453 → ∀ (A451 : Option Addr) (n452 : Nat) (c453 : Nat) (ac : Act) (w : World), FR 21 [] ac [(3, .slice A451 n452 c453)] → SH r (own (kI .i64) 2 A451 n452 c453 l450 :: L) w → Kx288 ac w := by
  intro l450 ht A451 n452 c453 ac w hA hS
  subst ht
  replace hF : column_Reals_x1_0 l450 = some y := hF
  unfold column_Reals_x1_0 at hF
  exact hb1 l450 hF A451 n452 c453 ac w (hA.sub _ rfl) hS
 replace hS := SH.nil_own (d := (kI .i64)) (e := 2) hS
 refine wp_loop_fn hl453 (fun s ac w => ∃ (A421 : Option Addr) (n422 : Nat) (c423 : Nat), FR 21 [] ac [(3, .slice A421 n422 c423), (6, .slice A0 n0 c0), (7, .int .i64 (a0.length : Int)), (8, .int .i64 s.2)] ∧ SH r (own (kI .i64) 2 A421 n422 c423 s.1 :: L) w) ⟨none, 0, 0, hA.sub _ rfl, hS⟩ ?_
 intro N453 s453 o453 hF N453_ T453_ ac w hLab
 obtain ⟨l420, x424⟩ := s453
 replace hF : column_Reals_l1 a0 l420 x424 = some o453 := hF
 unfold column_Reals_l1 at hF
 try dsimp only at hLab
 obtain ⟨A421, n422, c423, hA, hS⟩ := hLab
 refine ws fun K455 hK455 => ?_
 refine x_v hA (r_ltI rfl (hA.ev rfl) (hA.ev rfl)) rfl fun ac hA => ?_
 refine wn (hK455 _ _ ?_)
 refine wp_seq_k fun K456 hK456 => ?_
 refine c_if hA rfl (fun hb457 => ?_) fun hb457 => ?_
 ·replace hF := ift hb457 hF
  refine wp_skip ?_
  refine hK456 _ _ ?_
  refine wp_seq_k fun K458 hK458 => ?_
  refine wp_block_k fun Kx459 hKx459 => ?_
  refine ws fun K460 hK460 => ?_
  obtain ⟨x461, h462, hF⟩ := bnd hF
  refine x_ia Tryd.underlying92 sz42 (hS.rdl 1 ha0 rfl) h462 hA (fun ac hA => ?_) rfl rfl rfl rfl rfl rfl
  obtain ⟨cs, hV, hc463⟩ := el (hS.rdl 1 ha0 rfl) h462
  obtain rfl := hV
  refine x_ld Tryd.underlying42 (hc463 0 _ rfl) hA (fun ac hA => ?_) rfl rfl rfl rfl rfl rfl
  refine x_m hA rfl fun ac hA => ?_
  refine wn (hK460 _ _ ?_)
  refine wp_reg ?_
  refine x_m hA rfl fun ac hA => ?_
  refine x_m hA rfl fun ac hA => ?_
  obtain ⟨y464, h465, hF⟩ := bnd hF
  refine x_call en73 hA (F_real_Bits (L := own (kI .i64) 2 A421 n422 c423 l420 :: L) x461 h465 hS) (fun v ac w hR hA => ?_) rfl rfl rfl rfl rfl
  obtain ⟨rfl, hS⟩ := hR
  obtain ⟨x466, h467, hF⟩ := ltt_ hF
  refine x_v (v := .int .i64 x466) hA (rv_i h467 (r_convI Tryd.underlying31 Tryd.underlying2 rfl (hA.ev rfl))) rfl fun ac hA => ?_
  refine x_bsl (d := (kI .i64)) (e := 2) (ps := #[(0, .int .i64 x466)]) (cells := [.int .i64 x466]) (xs := [x466]) (fun w => by kernel_rfl) rfl ⟨[.int .i64 x466], _, rfl, rfl, rfl⟩ hA hS (fun g468 ac w hS hA => ?_) rfl rfl rfl rfl rfl rfl
  obtain ⟨h469, hF⟩ := chk_some hF
  have hr := hS.rd 0 rfl
  refine x_app 1 inf2 Tryd.underlying90 hA hS hr.1 hr.2.1 h469 rfl (fun A470 n471 c472 ac w hS hA => ?_) rfl rfl rfl rfl rfl rfl rfl rfl rfl
  refine x_m hA rfl fun ac hA => ?_
  refine wpList_nil ?_
  refine hKx459 _ _ ?_
  refine hK458 _ _ ?_
  refine wp_reg ?_
  obtain ⟨x473, h474, hF⟩ := ltt_ hF
  refine x_v (v := .int .i64 x473) hA (rv_i h474 (r_add rfl (hA.ev rfl) (hA.ev rfl))) rfl fun ac hA => ?_
  refine x_m hA rfl fun ac hA => ?_
  refine wpList_nil ?_
  replace hS := hS.drop 1
  cases hF
  exact ⟨_, N453_ _ rfl, A470, n471, c472, hA.sub _ rfl, hS⟩
 replace hF := iff' hb457 hF
 refine wp_exit ?_
 cases hF
 exact hx453_0 l420 (T453_ _ rfl) A421 n422 c423 ac w (hA.sub _ rfl) hS
end Go.Proofs.YteodeedejjcmgaaDoor.M
namespace Go.Proofs
open Go.RowKit Go.Maps Go.Sort Go.Shelf
def Tryd.sortL_ren : Go.Shelf.Ren := ⟨fun | 190 => 85 | 125 => 100 | 258 => 99 | 128 => 111 | 129 => 97 | 302 => 103 | 303 => 104 | 304 => 105 | 305 => 106 | 306 => 107 | 307 => 108 | 308 => 87 | 309 => 109 | 310 => 110 | 333 => 112 | 329 => 113 | 330 => 114 | 334 => 115 | 335 => 116 | 336 => 101 | 344 => 117 | n => n, fun | 31 => 91 | 9 => 9 | 3 => 3 | 46 => 73 | 0 => 0 | 51 => 48 | 53 => 31 | 4 => 4 | 183 => 153 | 182 => 152 | 131 => 127 | 5 => 5 | 218 => 159 | 222 => 163 | 228 => 165 | 229 => 166 | n => n, fun | n => n⟩
theorem Tryd.sortL : Go.Proofs.Lays.n190 Tryd.prog Tryd.sortL_ren := {
  mixed := by kernel_rfl
  f125 := Tryd.func100.trans (congrArg some (by kernel_rfl))
  f128 := Tryd.func111.trans (congrArg some (by kernel_rfl))
  f129 := Tryd.func97.trans (congrArg some (by kernel_rfl))
  f190 := Tryd.func85.trans (congrArg some (by kernel_rfl))
  f258 := Tryd.func99.trans (congrArg some (by kernel_rfl))
  f302 := Tryd.func103.trans (congrArg some (by kernel_rfl))
  f303 := Tryd.func104.trans (congrArg some (by kernel_rfl))
  f304 := Tryd.func105.trans (congrArg some (by kernel_rfl))
  f305 := Tryd.func106.trans (congrArg some (by kernel_rfl))
  f306 := Tryd.func107.trans (congrArg some (by kernel_rfl))
  f307 := Tryd.func108.trans (congrArg some (by kernel_rfl))
  f308 := Tryd.func87.trans (congrArg some (by kernel_rfl))
  f309 := Tryd.func109.trans (congrArg some (by kernel_rfl))
  f310 := Tryd.func110.trans (congrArg some (by kernel_rfl))
  f329 := Tryd.func113.trans (congrArg some (by kernel_rfl))
  f330 := Tryd.func114.trans (congrArg some (by kernel_rfl))
  f333 := Tryd.func112.trans (congrArg some (by kernel_rfl))
  f334 := Tryd.func115.trans (congrArg some (by kernel_rfl))
  f335 := Tryd.func116.trans (congrArg some (by kernel_rfl))
  f336 := Tryd.func101.trans (congrArg some (by kernel_rfl))
  f344 := Tryd.func117.trans (congrArg some (by kernel_rfl))
  t0 := Tryd.underlying0
  a0 := Tryd.isAgg0
  z0 := Tryd.sizeOf0
  v0 := Tryd.zeroValue0
  t3 := Tryd.underlying3
  a3 := Tryd.isAgg3
  z3 := Tryd.sizeOf3
  v3 := Tryd.zeroValue3
  t4 := Tryd.underlying4
  a4 := Tryd.isAgg4
  z4 := Tryd.sizeOf4
  v4 := Tryd.zeroValue4
  t5 := Tryd.underlying5
  a5 := Tryd.isAgg5
  z5 := Tryd.sizeOf5
  v5 := Tryd.zeroValue5
  t9 := Tryd.underlying9
  a9 := Tryd.isAgg9
  z9 := Tryd.sizeOf9
  v9 := Tryd.zeroValue9
  t31 := Tryd.underlying91
  a31 := Tryd.isAgg91
  z31 := Tryd.sizeOf91
  v31 := Tryd.zeroValue91
  t46 := Tryd.underlying73
  a46 := Tryd.isAgg73
  z46 := Tryd.sizeOf73
  v46 := Tryd.zeroValue73
  t51 := Tryd.underlying48
  a51 := Tryd.isAgg48
  z51 := Tryd.sizeOf48
  v51 := Tryd.zeroValue48
  t53 := Tryd.underlying31
  a53 := Tryd.isAgg31
  z53 := Tryd.sizeOf31
  v53 := Tryd.zeroValue31
  t131 := Tryd.underlying127
  a131 := Tryd.isAgg127
  z131 := Tryd.sizeOf127
  v131 := Tryd.zeroValue127
  t182 := Tryd.underlying152
  a182 := Tryd.isAgg152
  z182 := Tryd.sizeOf152
  v182 := Tryd.zeroValue152
  t183 := Tryd.underlying153
  a183 := Tryd.isAgg153
  z183 := Tryd.sizeOf153
  v183 := Tryd.zeroValue153
  t218 := Tryd.underlying159
  a218 := Tryd.isAgg159
  z218 := Tryd.sizeOf159
  v218 := Tryd.zeroValue159
  t222 := Tryd.underlying163
  a222 := Tryd.isAgg163
  z222 := Tryd.sizeOf163
  v222 := Tryd.zeroValue163
  t228 := Tryd.underlying165
  a228 := Tryd.isAgg165
  z228 := Tryd.sizeOf165
  v228 := Tryd.zeroValue165
  t229 := Tryd.underlying166
  a229 := Tryd.isAgg166
  z229 := Tryd.sizeOf166
  v229 := Tryd.zeroValue166 }
def Tryd.compactL_ren : Go.Shelf.Ren := ⟨fun | 194 => 69 | n => n, fun | 31 => 91 | 9 => 9 | 3 => 3 | 4 => 4 | 0 => 0 | n => n, fun | n => n⟩
theorem Tryd.compactL : Go.Proofs.Lays.n194 Tryd.prog Tryd.compactL_ren := {
  mixed := by kernel_rfl
  f194 := Tryd.func69.trans (congrArg some (by kernel_rfl))
  t0 := Tryd.underlying0
  a0 := Tryd.isAgg0
  z0 := Tryd.sizeOf0
  v0 := Tryd.zeroValue0
  t3 := Tryd.underlying3
  a3 := Tryd.isAgg3
  z3 := Tryd.sizeOf3
  v3 := Tryd.zeroValue3
  t4 := Tryd.underlying4
  a4 := Tryd.isAgg4
  z4 := Tryd.sizeOf4
  v4 := Tryd.zeroValue4
  t9 := Tryd.underlying9
  a9 := Tryd.isAgg9
  z9 := Tryd.sizeOf9
  v9 := Tryd.zeroValue9
  t31 := Tryd.underlying91
  a31 := Tryd.isAgg91
  z31 := Tryd.sizeOf91
  v31 := Tryd.zeroValue91 }
def Tryd.sortedL_ren : Go.Shelf.Ren := ⟨fun | 6 => 70 | 8 => 84 | 9 => 85 | 11 => 98 | 13 => 100 | 12 => 99 | 23 => 111 | 24 => 97 | 14 => 103 | 15 => 104 | 16 => 105 | 17 => 106 | 18 => 107 | 19 => 108 | 20 => 87 | 21 => 109 | 22 => 110 | 25 => 112 | 26 => 113 | 27 => 114 | 28 => 115 | 29 => 116 | 30 => 101 | 31 => 117 | n => n, fun | 26 => 9 | 28 => 125 | 24 => 91 | 0 => 0 | 3 => 3 | 37 => 73 | 48 => 48 | 50 => 31 | 4 => 4 | 40 => 153 | 39 => 152 | 45 => 127 | 5 => 5 | 9 => 9 | 51 => 159 | 55 => 163 | 57 => 165 | 58 => 166 | 33 => 139 | n => n, fun | n => n⟩
theorem Tryd.sortedL : Go.Proofs.SlLaysZ.n6 Tryd.prog Tryd.sortedL_ren := {
  mixed := by kernel_rfl
  f6 := ⟨ "slices.Sorted[string]", by decide, Tryd.func70.trans (congrArg some (by kernel_rfl))⟩
  f8 := ⟨ "slices.Collect[string]", by decide, Tryd.func84.trans (congrArg some (by kernel_rfl))⟩
  f11 := ⟨ "slices.AppendSeq[[]string,string]", by decide, Tryd.func98.trans (congrArg some (by kernel_rfl))⟩
  t0 := Tryd.underlying0
  a0 := Tryd.isAgg0
  z0 := Tryd.sizeOf0
  v0 := Tryd.zeroValue0
  t24 := Tryd.underlying91
  a24 := Tryd.isAgg91
  z24 := Tryd.sizeOf91
  v24 := Tryd.zeroValue91
  t26 := Tryd.underlying9
  a26 := Tryd.isAgg9
  z26 := Tryd.sizeOf9
  v26 := Tryd.zeroValue9
  t28 := Tryd.underlying125
  a28 := Tryd.isAgg125
  z28 := Tryd.sizeOf125
  v28 := Tryd.zeroValue125
  i26 := by kernel_rfl }
set_option maxRecDepth 100000 in
set_option maxHeartbeats 2000000 in
theorem values_gives (n : Nat) (hn : 1 ≤ n) (l Bx B : Nat) (W0 : World) (A : Option Addr) (c : Nat) (xs : List (List UInt8)) (hl : xs.length ≤ 4611686018427387904) (J : List (List UInt8) → World → Prop)
    (hJB : ∀ ss W1, J ss W1 → Below B W0 W1) (hBx : Bx < B) (hbox : W0.cell? ⟨Bx, 0, none⟩ = some (.slice A xs.length c))
    (hrow : 0 < xs.length → ∃ b off, A = some ⟨b, off, none⟩ ∧ b < B ∧ ∀ j x, xs[j]? = some x → W0.cell? ⟨b, off + j, none⟩ = some (encStr x))
    (hY : ∀ pre x W1, J pre W1 → pre.length < xs.length → YieldAt Fence.wide (n - 1) Tryd.prog l #[encStr x] W1 fun e W' => e = .returned (.bool true) ∧ J (pre ++ [x]) W' ∧ KeepsWalks W1 W')
    (W : World) (h0 : J [] W) :
    CallsIn Fence.wide n Tryd.prog 86 #[.func (.yield l) #[] #[], .pointer (some ⟨Bx, 0, none⟩)] W fun e W' => (∃ v, e = .returned v) ∧ J xs W' := by
  have hb1 := (hJB _ _ h0)
  have hx0 : W.cell? ⟨Bx, 0, none⟩ = some (.slice A xs.length c) := (hb1.cell (p := ⟨Bx, 0, none⟩) hBx).trans hbox
  refine callsIn_of_wp Tryd.func86 rfl trivial ?_ rfl
  simp only [Tryd.ntmps86, List.size_toArray, List.length_cons, List.length_nil, Nat.reduceAdd, Nat.reduceSub, Array.replicate_succ, Array.replicate_zero, List.push_toArray, List.append_toArray, List.nil_append, List.cons_append]
  gi_wp2
  gi_loopw [7] (fun s7 wr => ∃ k : Nat, s7 = .int .i64 k ∧ k ≤ xs.length ∧ J (xs.take k) wr) (fun s7 _ => match s7 with | .int .i64 k => (xs.length : Int).toNat - k.toNat | _ => 0)
  case atStart => exact ⟨0, rfl, Nat.zero_le _, by simpa using h0⟩
  case round =>
    obtain ⟨k, rfl, hk, hJk⟩ := hrel
    by_cases hlt : k < xs.length
    · obtain ⟨b, off, rfl, hb, hcell⟩ := hrow (by omega)
      have hx := List.getElem?_eq_getElem hlt
      have hc := ((hJB _ _ hJk).cell (p := ⟨b, off + k, none⟩) hb).trans (hcell k _ hx)
      obtain ⟨x, hxx⟩ : ∃ x, x = xs[k] := ⟨_, rfl⟩
      rw [← hxx] at hc hx
      have hkl : (xs.take k).length = k := by simp; omega
      obtain ⟨fn, tmps, assign, body, hy, hR⟩ := hY (xs.take k) x wr hJk (by omega)
      clear hrow hcell hxx
      gi_wp2
      refine hR.mono ?_
      rintro e W3 ⟨rfl, hJ3, hk3⟩
      gi_wp2
      go_roundw
      case rel => exact ⟨k + 1, by simp, by omega, by rw [List.take_add_one, hx]; exact hJ3⟩
      case measure => simp; omega
    · have : k = xs.length := by omega
      subst this
      gi_wp2
      go_end0
      exact ⟨⟨_, rfl⟩, by simpa using hJk⟩
set_option maxRecDepth 100000 in
set_option maxHeartbeats 2000000 in
theorem appendSeq_values (Bx : Nat) (w : World) (A : Option Addr) (c : Nat) (xs : List (List UInt8)) (hl : xs.length * 16 ≤ 140737488355328) (hBx : Bx < w.heap.size) (hbox : w.cell? ⟨Bx, 0, none⟩ = some (.slice A xs.length c))
    (hrow : 0 < xs.length → ∃ b off, A = some ⟨b, off, none⟩ ∧ b < w.heap.size ∧ ∀ j x, xs[j]? = some x → w.cell? ⟨b, off + j, none⟩ = some (encStr x)) :
    Calls Tryd.prog 98 #[.slice none 0 0, .func (.func 86) #[] #[.pointer (some ⟨Bx, 0, none⟩)]] w fun e w' => ∃ v, e = .returned v ∧ w'.ownsRow w.heap.size 9 1 v xs.length (xs.map encStr) ∧ (v = .slice none 0 0 ↔ xs = []) ∧ Below w.heap.size w w' := by
  refine (callsIn_wide (n := 5)).1 ?_
  obtain ⟨sv, hsv⟩ : ∃ sv : Value, sv = .func (.func 86) #[] #[.pointer (some ⟨Bx, 0, none⟩)] := ⟨_, rfl⟩
  have hsv' := hsv
  refine callsIn_of_wp_marks Tryd.func98 rfl trivial ?_ rfl
  simp only [Tryd.ntmps98, List.size_toArray, List.length_cons, List.length_nil, Nat.reduceAdd, Nat.reduceSub, Array.replicate_succ, Array.replicate_zero, List.push_toArray, List.append_toArray, List.nil_append, List.cons_append]
  gi_wp2
  refine wpIn_rangeFunc ?_
  intro fn hfn
  rw [show Fence.wide.round = none from rfl]
  let ρ := Tryd.sortedL_ren
  obtain ⟨W0, hW0⟩ : ∃ W0, w.alloc (.cells #[.slice none 0 0] 91) = W0 := ⟨_, rfl⟩
  have hs0 : W0.heap.size = w.heap.size + 1 := by rw [← hW0]; simp
  have hv0 : W0.heap[w.heap.size]? = some (.cells #[.slice none 0 0] 91 (0, 0)) := by rw [← hW0]; exact World.alloc_heap_new w _
  have hb0 : Below w.heap.size w W0 := by rw [← hW0]; exact (Below.refl _ w).alloc (Nat.le_refl _) _
  rw [hW0]
  obtain ⟨W1, hW1⟩ : ∃ W1, (W0.alloc (.deferred (some []))).alloc (.loop (AnyZ.apRec ρ fn sv w.heap.size W0.heap.size .ready none)) = W1 := ⟨_, rfl⟩
  have hold : ∀ k, k < W0.heap.size → W1.heap[k]? = W0.heap[k]? := fun k hk => by
    rw [← hW1]; exact (Below.heap_alloc _ _ k (by simp; omega)).trans (Below.heap_alloc _ _ k hk)
  have hb1 : Below w.heap.size w W1 := by rw [← hW1]; exact (hb0.alloc hb0.size _).alloc (by have := hb0.size; simp; omega) _
  have hM : AnyZ.ApAt ρ w fn sv w.heap.size (W0.heap.size + 1) W0.heap.size [] W1 :=
    ⟨⟨_, (hold w.heap.size (by omega)).trans hv0, ⟨rfl, .inl ⟨rfl, rfl⟩⟩, by simp⟩,
     by rw [← hW1]; have := World.alloc_heap_new (W0.alloc (.deferred (some []))) (.loop (AnyZ.apRec ρ fn sv w.heap.size W0.heap.size .ready none)); rwa [World.size_alloc] at this,
     by rw [← hW1]; exact (Below.heap_alloc _ _ _ (by simp)).trans (World.alloc_heap_new W0 _), hb1⟩
  refine ⟨W0.heap.size + 1, [{ target := .collected W0.heap.size, args := #[] }], W1, { target := .fn (.func 86) #[.pointer (some ⟨Bx, 0, none⟩)], args := #[.func (.yield (W0.heap.size + 1)) #[] #[]] }, W1, 86,
    #[.func (.yield (W0.heap.size + 1)) #[] #[]] ++ #[.pointer (some ⟨Bx, 0, none⟩)], W1, ?_, ?_, ?_, ?_, fun _ => by omega, ?_⟩
  · rw [← hW1, hsv]; exact run_enterLoop_outer _ _ _ _ _
  · simp [resolve, go_sem]
  · intro f' hf'; trivial
  · simp [invoke, go_sem]
  · have hcur := AnyZ.apYield (ρ := ρ) (P := Tryd.prog) { Tryd.sortedL with } Fence.wide 3 w fn hfn sv w.heap.size (W0.heap.size + 1) W0.heap.size (by omega) (by omega) (by omega) (Nat.le_refl _) (by omega) xs.length (by unfold maxLen; omega) hl
    refine (values_gives 4 (by omega) (W0.heap.size + 1) Bx w.heap.size w A c xs (by omega) (AnyZ.ApAt ρ w fn sv w.heap.size (W0.heap.size + 1) W0.heap.size) (fun ss W1 h => h.below) hBx hbox hrow
      (fun pre x W hJ hlt => hcur pre x W hJ hlt) W1 hM).mono ?_
    rintro e W2 ⟨⟨v0, rfl⟩, h2⟩
    obtain ⟨v, hv, hr, hnil⟩ := h2.box
    have hend := run_endLoop (P := Tryd.prog) h2.L (by simp [AnyZ.apRec])
    obtain ⟨W3, hW3⟩ : ∃ W3, W2.putObj (W0.heap.size + 1) (.loop { AnyZ.apRec ρ fn sv w.heap.size W0.heap.size .ready none with state := .exhausted }) = W3 := ⟨_, rfl⟩
    rw [hW3] at hend
    have hg3 : W2.grownBy W3 (some (W0.heap.size + 1)) := by rw [← hW3]; exact grownBy_putObj_a _ _ _
    have hv3 : W3.heap[w.heap.size]? = some (.cells #[v] 91 (0, 0)) := by rw [← hW3]; exact (World.putObj_heap_other (by omega)).trans hv
    have hK3 : W3.heap[W0.heap.size]? = some (.deferred (some [])) := by rw [← hW3]; exact (World.putObj_heap_other (by omega)).trans h2.K
    have hr3 := hr.kept hg3 (ownsRow_ne_a hr h2.L (fun cur e => by cases e))
    have hb3 : Below w.heap.size w W3 := h2.below.grown hg3 h2.below.size (fun k e => by cases e; omega)
    obtain ⟨hc3, hf3⟩ := cell_of_box_a hv3
    clear hW3
    refine ⟨none, W3, hend, ?_⟩
    gi_wp2
    rw [← hs0]
    refine ⟨by simp, .inl ⟨_, _, rfl, run_takeDeferred hK3, ?_⟩⟩
    exact ⟨_, results_tmp rfl _ _ _, v, rfl, hr3.kept (grownBy_putObj_a _ _ _) (ownsRow_ne_a hr3 hK3 (fun cur e => by cases e)), hnil, hb3.grown (grownBy_putObj_a _ _ _) hb3.size (fun k e => by cases e; omega)⟩
set_option maxRecDepth 100000 in
set_option maxHeartbeats 2000000 in
theorem collect_values (Bx : Nat) (w : World) (A : Option Addr) (c : Nat) (xs : List (List UInt8)) (hl : xs.length * 16 ≤ 140737488355328) (hBx : Bx < w.heap.size) (hbox : w.cell? ⟨Bx, 0, none⟩ = some (.slice A xs.length c))
    (hrow : 0 < xs.length → ∃ b off, A = some ⟨b, off, none⟩ ∧ b < w.heap.size ∧ ∀ j x, xs[j]? = some x → w.cell? ⟨b, off + j, none⟩ = some (encStr x)) :
    Calls Tryd.prog 84 #[.func (.func 86) #[] #[.pointer (some ⟨Bx, 0, none⟩)]] w fun e w' => ∃ v, e = .returned v ∧ w'.ownsRow w.heap.size 9 1 v xs.length (xs.map encStr) ∧ (v = .slice none 0 0 ↔ xs = []) ∧ Below w.heap.size w w' := by
  refine (callsIn_wide (n := 6)).1 ?_
  have cS := (callsIn_wide (n := 5)).2 (appendSeq_values Bx w A c xs hl hBx hbox hrow)
  refine callsIn_of_wp Tryd.func84 rfl trivial ?_ rfl
  simp only [Tryd.ntmps84, List.size_toArray, List.length_cons, List.length_nil, Nat.reduceAdd, Nat.reduceSub, Array.replicate_succ, Array.replicate_zero, List.push_toArray, List.append_toArray, List.nil_append, List.cons_append]
  have hfS : Fence.wide.fn 98 := trivial
  gi_wp2_with (gi_at_call 98; refine cS.mono ?_; rintro e w' ⟨v, rfl, hr, hnil, hb⟩)
  go_ret
  exact ⟨v, rfl, hr, hnil, hb⟩
set_option maxRecDepth 100000 in
set_option maxHeartbeats 2000000 in
theorem sorted_values (Bx : Nat) (w : World) (A : Option Addr) (c : Nat) (xs : List (List UInt8)) (hl : xs.length * 16 ≤ 140737488355328) (hBx : Bx < w.heap.size) (hbox : w.cell? ⟨Bx, 0, none⟩ = some (.slice A xs.length c))
    (hrow : 0 < xs.length → ∃ b off, A = some ⟨b, off, none⟩ ∧ b < w.heap.size ∧ ∀ j x, xs[j]? = some x → w.cell? ⟨b, off + j, none⟩ = some (encStr x)) :
    Calls Tryd.prog 70 #[.func (.func 86) #[] #[.pointer (some ⟨Bx, 0, none⟩)]] w fun e w' => ∃ v, e = .returned v ∧ w'.ownsRow w.heap.size 9 1 v xs.length ((xs.mergeSort fun x y => decide (x ≤ y)).map encStr) ∧ (v = .slice none 0 0 ↔ xs = []) ∧ Below w.heap.size w w' := by
  refine (callsIn_wide (n := 7)).1 ?_
  have cS := (callsIn_wide (n := 6)).2 (collect_values Bx w A c xs hl hBx hbox hrow)
  refine callsIn_of_wp Tryd.func70 rfl trivial ?_ rfl
  simp only [Tryd.ntmps70, List.size_toArray, List.length_cons, List.length_nil, Nat.reduceAdd, Nat.reduceSub, Array.replicate_succ, Array.replicate_zero, List.push_toArray, List.append_toArray, List.nil_append, List.cons_append]
  have hfS : Fence.wide.fn 84 := trivial
  have hfT : Fence.wide.fn 85 := trivial
  gi_wp2_with (gi_at_call 84; refine cS.mono ?_; rintro e W ⟨v, rfl, hr, hnil, hb⟩)
  rcases hr.2 with ⟨rfl, hz⟩ | ⟨gb, cap, cur, rfl, hbase, hgb, r1, r2, r3, r4⟩
  · have hss : xs = [] := List.eq_nil_of_length_eq_zero hz
    subst hss
    have cT := (callsIn_wide (n := 6)).2 (Any.slices_Sort_string_none Tryd.sortL none 0 W)
    change CallsIn _ _ Tryd.prog 85 _ _ _ at cT
    gi_wp2_with (gi_at_call 85; refine cT.mono ?_; rintro e w' ⟨rfl, rfl⟩)
    go_ret
    exact ⟨_, rfl, by simpa using hr, by simp, hb⟩
  · have hH : Holds encStr W gb 0 xs.toArray := holds_of_block hgb (by simpa using r4)
    have hgl : gb < W.heap.size := (Array.getElem?_eq_some_iff.1 hgb).1
    have cT := (callsIn_wide (n := 6)).2 (Any.slices_Sort_string Tryd.sortL gb 0 cap xs W hH hgl (by omega))
    change CallsIn _ _ Tryd.prog 85 _ _ _ at cT
    gi_wp2_with (gi_at_call 85; refine cT.mono ?_; rintro e w' ⟨rfl, nn, os, rfl⟩)
    go_ret
    exact ⟨_, rfl, ownsRow_sorted (by simp) hbase hgb r1 r2 r3, hnil, hb.grown (grownBy_sorted _) hb.size (fun j hj => by cases hj; exact hbase)⟩
end Go.Proofs
namespace Go.Proofs.YteodeedejjcmgaaDoor.M
open Go Go.RowKit Go.Proofs.YteodeedejjcmgaaDoor.E
noncomputable def slices_Sorted_string (a0 : List (List UInt8)) : Option (List (List UInt8)) := chk (a0.length * 16 ≤ 140737488355328) (some (a0.mergeSort fun x y => decide (x ≤ y)))
noncomputable def slices_Compact_string (a0 : List (List UInt8)) : Option (List (List UInt8)) := some (Lib.compact a0)
end Go.Proofs.YteodeedejjcmgaaDoor.M
namespace Go.Proofs.YteodeedejjcmgaaDoor.M
open Go Go.RowKit Go.Proofs.YteodeedejjcmgaaDoor.E
set_option linter.unusedVariables false
theorem F_slices_Values {r w : World} {L : List HP} {A : Option Addr} {n c : Nat} (hS : SH r L w) :
    Ret Tryd.prog 71 #[.slice A n c] w fun v w' => ∃ g, v = .func (.func 86) #[] #[.pointer (some ⟨g, 0, none⟩)] ∧ SH r (blk g 91 [.slice A n c] :: L) w' := by
  refine enter Tryd.func71 rfl Tryd.ntmps71 [(0, .slice A n c)] rfl (by simp) ?_
  intro ac hA Qf hQ hQn
  refine wp_seq_k fun K1 hK1 => ?_
  refine wp_reg ?_
  refine x_box hA hS (fun g ac w hS hA => ?_) rfl rfl rfl rfl rfl rfl
  refine x_assign hA (fun ac hA => ?_) rfl rfl rfl rfl rfl
  refine wpList_nil ?_
  refine hK1 _ _ ?_
  refine wp_seq_k fun K2 hK2 => ?_
  refine wp_reg ?_
  refine x_val hA (r_makeFunc rfl (mapev (vals := #[]) hA rfl) (mapev (vals := #[.pointer (some ⟨g, 0, none⟩)]) hA rfl)) (fun ac hA => ?_) rfl rfl rfl
  refine x_assign hA (fun ac hA => ?_) rfl rfl rfl rfl rfl
  refine wpList_nil ?_
  refine hK2 _ _ ?_
  refine wp_ret ?_
  refine hQ _ _ ?_
  refine lv Tryd.results71 hA rfl ?_
  exact ⟨g, rfl, hS⟩
theorem F_slices_Sorted {r w : World} {L : List HP} (xs : List (List UInt8)) {g : Nat} {A : Option Addr} {n c : Nat} {y : List (List UInt8)} (hF : slices_Sorted_string xs = some y) (ha : RdL L kS A n c xs) (hS : SH r (blk g 91 [.slice A n c] :: L) w) :
    Ret Tryd.prog 70 #[.func (.func 86) #[] #[.pointer (some ⟨g, 0, none⟩)]] w fun v w' => ∃ (A' : Option Addr) (n' c' : Nat), v = .slice A' n' c' ∧ SH r (own kS 9 A' n' c' y :: L) w' := by
  obtain ⟨hsz, hF⟩ := chk_some hF
  cases hF
  obtain ⟨S1, S2, h1, h2, hd, hA, hL⟩ := hS.head
  have hg := hA.2
  have hgl : g < w.heap.size := (Array.getElem?_eq_some_iff.1 hg).1
  have hln := ha.ln
  subst hln
  refine Calls.mono (sorted_values g w A c xs hsz hgl (by simp [World.cell?, hg]) fun hpos => ?_) ?_
  · obtain ⟨ad, e, hr⟩ := ha.rd w S2 hL hpos
    have hc : ∀ j x, xs[j]? = some x → w.cell? (ad.add j) = some (encStr x) := fun j x hx => by
      obtain ⟨cs, hV, h3⟩ := hr j x hx
      have hV' : cs = [str x] := hV
      subst hV'
      have := h3 0 (str x) rfl
      rw [show j * kS.sz + 0 = j from by show j * 1 + 0 = j; omega] at this
      exact this
    obtain ⟨x, hx⟩ : ∃ x, xs[0]? = some x := ⟨_, List.getElem?_eq_getElem hpos⟩
    have h0 := hc 0 x hx
    obtain ⟨b, off, sp⟩ := ad
    have hsp : sp = none := by simpa [Addr.add] using World.cell?_spot h0
    subst hsp
    refine ⟨b, off, e, ?_, fun j x hx => ?_⟩
    · have : w.cell? ⟨b, off, none⟩ = some (encStr x) := by simpa [Addr.add] using h0
      unfold World.cell? at this
      split at this
      · rename_i hq; exact (Array.getElem?_eq_some_iff.1 hq).1
      · cases this
    · have := hc j x hx
      unfold Addr.add at this
      split at this
      · rename_i hj; subst hj; exact this
      · exact this
  · rintro ev w' ⟨v, rfl, hr, _, hb⟩
    obtain ⟨A', n', c', rfl, hS'⟩ := hS.tail.newrow (d := kS) (xs := xs.mergeSort fun x y => decide (x ≤ y)) hb (by rw [List.length_mergeSort]; exact hr) (lay_kS _)
    exact ⟨_, rfl, A', n', c', rfl, hS'⟩
theorem F_slices_Compact {r w : World} {L : List HP} (xs : List (List UInt8)) {A : Option Addr} {n c : Nat} {y : List (List UInt8)} (hF : slices_Compact_string xs = some y) (hS : SH r (own kS 9 A n c xs :: L) w) :
    Ret Tryd.prog 69 #[.slice A n c] w fun v w' => ∃ (A' : Option Addr) (n' c' : Nat), v = .slice A' n' c' ∧ SH r (own kS 9 A' n' c' y :: L) w' := by
  cases hF
  obtain ⟨S1, S2, h1, h2, hd, hA, hL⟩ := hS.head
  obtain ⟨hn, ⟨inner, hLy, ho⟩, hg⟩ := hA
  subst hn
  have hle := own_le (d := kS) (e := 9) ⟨rfl, ⟨inner, hLy, ho⟩, hg⟩
  obtain rfl := lay_kS_eq hLy
  rcases ho.2 with ⟨hv, h0⟩ | ⟨g, cap, cur, hv, hg0, hh, hnc, hcm, hs, ht⟩
  · injection hv with e1 e2 e3
    subst e1; subst e3
    have hx : xs = [] := List.eq_nil_of_length_eq_zero h0
    subst hx
    have cC := Any.slices_Compact_string_empty Tryd.compactL none 0 w
    change Calls Tryd.prog 69 _ _ _ at cC
    refine cC.mono ?_
    rintro ev w' ⟨rfl, rfl⟩
    exact ⟨_, rfl, none, 0, 0, rfl, hS⟩
  · injection hv with e1 e2 e3
    subst e1; subst e3
    have hH : Go.Sort.Holds encStr w g 0 xs.toArray := holds_of_block hh (by rw [show xs.length * kS.sz = xs.length from by show _ * 1 = _; omega] at ht; exact ht)
    have cC := Any.slices_Compact_string Tryd.compactL g 0 c xs w hH (by unfold maxLen at hcm; omega) hnc
    change Calls Tryd.prog 69 _ _ _ at cC
    refine cC.mono ?_
    rintro ev w' ⟨rfl, q, rfl⟩
    have hcl : (Lib.compact xs).length ≤ xs.length := compact_len xs
    refine ⟨_, rfl, some ⟨g, 0, none⟩, (Lib.compact xs).length, c, rfl, ?_⟩
    have hr := ownsRow_sorted (w := w) (base := 0) (n := q) (os := #[]) (ss := xs) (ts := Lib.compact xs ++ List.replicate (xs.length - (Lib.compact xs).length) []) (by simp; omega) (Nat.zero_le _) hh hnc hcm hs
    rw [Go.Sort.grow_empty] at hr
    have hgb := grownBy_sorted (w := w) (g := g) (n := q) (os := #[]) (Lib.compact xs ++ List.replicate (xs.length - (Lib.compact xs).length) ([] : List UInt8)).toArray
    rw [Go.Sort.grow_empty] at hgb
    obtain ⟨q1, q2, q3, q4, q5⟩ := hgb
    refine hS.upd (Ls := [own kS 9 (some ⟨g, 0, none⟩) (Lib.compact xs).length c (Lib.compact xs)]) h1 h2 hd hL q1 q2 q3 q4 (fun k hk hnk => q5 k hk fun e => hnk (by cases e; exact hg g rfl)) fun S hSS _ _ => ?_
    refine ⟨S, fun _ => False, fun k hk => hk, fun k hk => hk.elim, fun k _ hk => hk, ⟨rfl, ⟨_, lay_kS _, ?_⟩, fun k hk => by cases hk; exact hSS g (hg g rfl)⟩, trivial⟩
    refine ⟨by simp [kS], ?_⟩
    rcases hr.2 with ⟨hv2, _⟩ | ⟨g2, cap2, cur2, hv2, _, hh2, hnc2, hcm2, hs2, ht2⟩
    · cases hv2
    · injection hv2 with e1 e2 e3
      injection e1 with e1
      injection e1 with e1
      subst e1; subst e3
      refine .inr ⟨g, c, cur2, rfl, Nat.zero_le _, hh2, by omega, hcm2, hs2, ?_⟩
      have h5 := congrArg (List.take (Lib.compact xs).length) ht2
      rw [List.take_take, Nat.min_eq_left (by omega), List.map_append, List.take_left' (by simp)] at h5
      rw [show (Lib.compact xs).length * kS.sz = (Lib.compact xs).length from by show _ * 1 = _; omega]
      exact h5
end Go.Proofs.YteodeedejjcmgaaDoor.M
namespace Go.Proofs.YteodeedejjcmgaaDoor.M
open Go Go.RowKit Go.Proofs.YteodeedejjcmgaaDoor.E
set_option linter.unusedVariables false
set_option linter.unusedSimpArgs false
noncomputable def cmp_isNaN_string (a0 : (List UInt8)) : Option (Bool) :=
  some (!(a0 == a0))
noncomputable def slices_isNaN_string (a0 : (List UInt8)) : Option (Bool) :=
  some (!(a0 == a0))
noncomputable def cmp_Less_string (a0 : (List UInt8)) (a1 : (List UInt8)) : Option (Bool) :=
  (cmp_isNaN_string a0).bind fun y103 => (if y103 = true then ((cmp_isNaN_string a1).bind fun y106 => (if (!y106) = true then (some true) else (some (Op.bytesLess a0 a1)))) else (some (Op.bytesLess a0 a1)))
noncomputable def slices_BinarySearch_string_string_b1 (a0 : (List (List UInt8))) (a1 : (List UInt8)) (x520 : Int) : Option (Int × Bool) :=
  if (decide (x520 < (a0.length : Int))) = true then ((at_ a0 x520).bind fun x523 => (if (x523 == a1) = true then (some (x520, true)) else ((slices_isNaN_string x523).bind fun y528 => (if y528 = true then ((slices_isNaN_string a1).bind fun y531 => (some (x520, y531))) else (some (x520, false)))))) else (some (x520, false))
noncomputable def slices_BinarySearch_string_string_x1_0 (a0 : (List (List UInt8))) (a1 : (List UInt8)) (x625 : Int) : Option (Int × Bool) :=
  slices_BinarySearch_string_string_b1 a0 a1 x625
noncomputable def slices_BinarySearch_string_string_b2 (x649 : Int) (x650 : Int) : Option ((Int × Int) ⊕ ((Int))) :=
  some (.inl (x649, x650))
noncomputable def slices_BinarySearch_string_string_l1 (a0 : (List (List UInt8))) (a1 : (List UInt8)) (x578 : Int) (x579 : Int) : Option ((Int × Int) ⊕ ((Int))) :=
  if (decide (x578 < x579)) = true then (ltt (IntKind.i64.wrap (x578 + x579)) fun x652 => (ltt (IntKind.u64.wrap x652) fun x654 => (ltt (ishr .u64 x654 1) fun x656 => (ltt (IntKind.i64.wrap x656) fun x658 => ((at_ a0 x658).bind fun x661 => ((cmp_Less_string x661 a1).bind fun y664 => (if y664 = true then (ltt (IntKind.i64.wrap (x658 + 1)) fun x667 => (slices_BinarySearch_string_string_b2 x667 x579)) else (slices_BinarySearch_string_string_b2 x578 x658)))))))) else (some (.inr (x578)))
noncomputable def slices_BinarySearch_string_string (a0 : (List (List UInt8))) (a1 : (List UInt8)) : Option (Int × Bool) :=
  (loop (fun s => slices_BinarySearch_string_string_l1 a0 a1 s.1 s.2) (0, (a0.length : Int))).bind fun t => slices_BinarySearch_string_string_x1_0 a0 a1 t
noncomputable def column_Texts_b2 (l336 : (List Int)) (l606 : (List Int)) : Option ((List Int)) :=
  (column_Ints l606).bind fun y611 => (chk (l336.length + y611.length ≤ 140737488355328 / 1) (some (l336 ++ y611)))
noncomputable def column_Texts_x1_2 (l336 : (List Int)) (l681 : (List Int)) : Option ((List Int)) :=
  column_Texts_b2 l336 l681
noncomputable def column_Texts_l1 (a0 : (List (List UInt8))) (y109 : (List (List UInt8))) (l652 : (List Int)) (x656 : Int) : Option (((List Int) × Int) ⊕ (((List Int)))) :=
  if (decide (x656 < (a0.length : Int))) = true then ((at_ a0 x656).bind fun x692 => ((slices_BinarySearch_string_string y109 x692).bind fun y696 => (chk (l652.length + [y696.1].length ≤ 140737488355328 / 8) (ltt (IntKind.i64.wrap (x656 + 1)) fun x703 => (some (.inl (l652 ++ [y696.1], x703))))))) else (some (.inr (l652)))
noncomputable def column_Texts_b1 (a0 : (List (List UInt8))) (y109 : (List (List UInt8))) (l336 : (List Int)) : Option ((List Int)) :=
  (loop (fun s => column_Texts_l1 a0 y109 s.1 s.2) ([], 0)).bind fun t => column_Texts_x1_2 l336 t
noncomputable def column_Texts_x2_0 (a0 : (List (List UInt8))) (y109 : (List (List UInt8))) (l752 : (List Int)) : Option ((List Int)) :=
  column_Texts_b1 a0 y109 l752
noncomputable def column_Texts_l2 (y109 : (List (List UInt8))) (l726 : (List Int)) (x730 : Int) : Option (((List Int) × Int) ⊕ (((List Int)))) :=
  if (decide (x730 < (y109.length : Int))) = true then ((at_ y109 x730).bind fun x763 => ((column_Text l726 x763).bind fun y766 => (ltt (IntKind.i64.wrap (x730 + 1)) fun x771 => (some (.inl (y766, x771)))))) else (some (.inr (l726)))
noncomputable def column_Texts (a0 : (List (List UInt8))) : Option ((List Int)) :=
  (slices_Sorted_string a0).bind fun y104 => ((slices_Compact_string y104).bind fun y109 => (ltt (IntKind.u64.wrap (y109.length : Int)) fun x115 => ((column_Uint [] x115).bind fun y117 => ((loop (fun s => column_Texts_l2 y109 s.1 s.2) (y117, 0)).bind fun t => column_Texts_x2_0 a0 y109 t))))
end Go.Proofs.YteodeedejjcmgaaDoor.M
