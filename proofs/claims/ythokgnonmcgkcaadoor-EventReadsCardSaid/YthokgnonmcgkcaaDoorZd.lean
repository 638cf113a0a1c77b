/- Texts of the claim, joined: what it uses of Mpg, Dpr, Mpr, Drr. -/
import Derived.Test.YthokgnonmcgkcaaDoorZc
namespace Go.Proofs.YthokgnonmcgkcaaDoor.M
open Go Go.RowKit Go.Proofs.YthokgnonmcgkcaaDoor.E
set_option linter.unusedVariables false
set_option linter.unusedSimpArgs false
set_option maxRecDepth 100000 in
set_option maxHeartbeats 4000000 in
theorem F_page_Sum {r : World} {L : List HP} {w : World} {Z : Nat → Prop} {wz : World} (a0 : (List Int)) (A0 : Option Addr) (n0 : Nat) (c0 : Nat) {y : (Int)} (hF : page_Sum a0 = some y) (qz : Nat) (hZ : L[qz]? = some (zone Z wz)) (ha0 : RdL L (kI .u8) A0 n0 c0 a0) (hG0 : Imm Z wz (kI .u32) (some ⟨0, 0, none⟩) 16 16 gl0) (hS : SH r (L) w) :
    Ret Tryd.prog 38 #[.slice A0 n0 c0] w fun v w' => v = .int .u32 y ∧ SH r (L) w' := by
  refine enter Tryd.func38 rfl Tryd.ntmps38 [(0, .slice A0 n0 c0)] rfl (by simp) ?_
  intro ac hA Qf hQ hQn
  unfold page_Sum at hF
  refine wp_seq_k fun K101 hK101 => ?_
  refine wp_reg ?_
  refine x_assign hA (fun ac hA => ?_) rfl rfl rfl rfl rfl
  refine wpList_nil ?_
  refine hK101 _ _ ?_
  refine wp_seq_k fun K102 hK102 => ?_
  refine wp_reg ?_
  refine x_assign hA (fun ac hA => ?_) rfl rfl rfl rfl rfl
  refine wpList_nil ?_
  refine hK102 _ _ ?_
  refine wp_seq_k fun K103 hK103 => ?_
  refine wp_seq_k fun K352 hK352 => ?_
  refine wp_reg ?_
  refine x_move hA (fun ac hA => ?_) rfl rfl rfl rfl rfl
  refine x_len Tryd.underlying22 (hS.rdl 0 ha0 rfl).2.1 hA (fun ac hA => ?_) rfl rfl rfl rfl rfl
  refine x_move hA (fun ac hA => ?_) rfl rfl rfl rfl rfl
  refine wpList_nil ?_
  refine hK352 _ _ ?_
  refine wp_block_k fun Kx353 hKx353 => ?_
  have hb1 : ∀ (x476 : Int), page_Sum_b1 x476 = some y → ∀ (ac : Act) (w : World), FR 36 [] ac [(3, .int .u32 x476)] → SH r (L) w → Kx353 ac w := by
    intro x476 hF ac w hA hS
    unfold page_Sum_b1 at hF
    refine hKx353 _ _ ?_
    refine hK103 _ _ ?_
    refine wp_seq_k fun K477 hK477 => ?_
    refine wp_reg ?_
    refine x_move hA (fun ac hA => ?_) rfl rfl rfl rfl rfl
    refine x_val hA (r_compl rfl (hA.ev rfl)) (fun ac hA => ?_) rfl rfl rfl
    refine x_assign hA (fun ac hA => ?_) rfl rfl rfl rfl rfl
    refine wpList_nil ?_
    refine hK477 _ _ ?_
    refine wp_ret ?_
    cases hF
    refine hQ _ _ ?_
    refine lv Tryd.results38 hA rfl ?_
    exact ⟨rfl, hS⟩
  obtain ⟨t560, hl560, hF⟩ := bnd hF
  have hx560_0 : ∀ (x560 : Int), (x560) = t560 → ∀ (ac : Act) (w : World), FR 36 [] ac [(3, .int .u32 x560)] → SH r (L) w → Kx353 ac w := by
    intro x560 ht ac w hA hS
    subst ht
    replace hF : page_Sum_x1_0 x560 = some y := hF
    unfold page_Sum_x1_0 at hF
    exact hb1 x560 hF ac w (hA.sub _ rfl) hS
  refine wp_loop_fn hl560 (fun s ac w => FR 36 [] ac [(3, .int .u32 s.1), (6, .slice A0 n0 c0), (7, .int .i64 (a0.length : Int)), (8, .int .i64 s.2)] ∧ SH r (L) w) ⟨hA.sub _ rfl, hS⟩ ?_
  intro N560 s560 o560 hF N560_ T560_ ac w hLab
  obtain ⟨x518, x519⟩ := s560
  replace hF : page_Sum_l1 a0 x518 x519 = some o560 := hF
  unfold page_Sum_l1 at hF
  try dsimp only at hLab
  obtain ⟨hA, hS⟩ := hLab
  refine wp_seq_k fun K562 hK562 => ?_
  refine wp_reg ?_
  refine x_val hA (r_ltI rfl (hA.ev rfl) (hA.ev rfl)) (fun ac hA => ?_) rfl rfl rfl
  refine wpList_nil ?_
  refine hK562 _ _ ?_
  refine wp_seq_k fun K563 hK563 => ?_
  refine c_if hA rfl (fun hb564 => ?_) fun hb564 => ?_
  · replace hF := ift hb564 hF
    refine wp_skip ?_
    refine hK563 _ _ ?_
    refine wp_seq_k fun K565 hK565 => ?_
    refine wp_block_k fun Kx566 hKx566 => ?_
    refine wp_seq_k fun K567 hK567 => ?_
    refine wp_reg ?_
    obtain ⟨x568, h569, hF⟩ := bnd hF
    refine x_ia Tryd.underlying22 sz5 (hS.rdl 0 ha0 rfl) h569 hA (fun ac hA => ?_) rfl rfl rfl rfl rfl rfl
    obtain ⟨cs, hV, hc570⟩ := el (hS.rdl 0 ha0 rfl) h569
    obtain rfl := hV
    refine x_ld Tryd.underlying5 (hc570 0 _ rfl) hA (fun ac hA => ?_) rfl rfl rfl rfl rfl rfl
    refine x_assign hA (fun ac hA => ?_) rfl rfl rfl rfl rfl
    refine wpList_nil ?_
    refine hK567 _ _ ?_
    refine wp_seq_k fun K571 hK571 => ?_
    refine wp_reg ?_
    refine x_move hA (fun ac hA => ?_) rfl rfl rfl rfl rfl
    refine x_move hA (fun ac hA => ?_) rfl rfl rfl rfl rfl
    obtain ⟨x572, h573, hF⟩ := ltt_ hF
    refine x_val (v := .int .u32 x572) hA (rv_i h573 (r_convI Tryd.underlying5 Tryd.underlying79 rfl (hA.ev rfl))) (fun ac hA => ?_) rfl rfl rfl
    obtain ⟨x574, h575, hF⟩ := ltt_ hF
    refine x_val (v := .int .u32 x574) hA (rv_i h575 (r_xor rfl (hA.ev rfl) (hA.ev rfl))) (fun ac hA => ?_) rfl rfl rfl
    obtain ⟨x576, h577, hF⟩ := ltt_ hF
    refine x_val (v := .int .u32 x576) hA (rv_i h577 (r_and rfl (hA.ev rfl) (hA.ev rfl))) (fun ac hA => ?_) rfl rfl rfl
    obtain ⟨x578, h579, hF⟩ := bnd hF
    refine x_iaA Tryd.underlying109 sz79 (hS.rdl 0 (hG0.rdl qz hZ) rfl) h579 hA (fun ac hA => ?_) rfl rfl rfl rfl rfl rfl
    obtain ⟨cs, hV, hc580⟩ := el (hS.rdl 0 (hG0.rdl qz hZ) rfl) h579
    obtain rfl := hV
    refine x_ld Tryd.underlying79 (hc580 0 _ rfl) hA (fun ac hA => ?_) rfl rfl rfl rfl rfl rfl
    refine x_move hA (fun ac hA => ?_) rfl rfl rfl rfl rfl
    obtain ⟨x581, h582, hF⟩ := ltt_ hF
    refine x_val (v := .int .u32 x581) hA (rv_i h582 (r_shr rfl (hA.ev rfl) (hA.ev rfl) (by decide))) (fun ac hA => ?_) rfl rfl rfl
    obtain ⟨x583, h584, hF⟩ := ltt_ hF
    refine x_val (v := .int .u32 x583) hA (rv_i h584 (r_xor rfl (hA.ev rfl) (hA.ev rfl))) (fun ac hA => ?_) rfl rfl rfl
    refine x_assign hA (fun ac hA => ?_) rfl rfl rfl rfl rfl
    refine wpList_nil ?_
    refine hK571 _ _ ?_
    refine wp_reg ?_
    refine x_move hA (fun ac hA => ?_) rfl rfl rfl rfl rfl
    refine x_move hA (fun ac hA => ?_) rfl rfl rfl rfl rfl
    refine x_val (v := .int .u32 x572) hA (rv_i h573 (r_convI Tryd.underlying5 Tryd.underlying79 rfl (hA.ev rfl))) (fun ac hA => ?_) rfl rfl rfl
    obtain ⟨x585, h586, hF⟩ := ltt_ hF
    refine x_val (v := .int .u32 x585) hA (rv_i h586 (r_shr rfl (hA.ev rfl) (hA.ev rfl) (by decide))) (fun ac hA => ?_) rfl rfl rfl
    obtain ⟨x587, h588, hF⟩ := ltt_ hF
    refine x_val (v := .int .u32 x587) hA (rv_i h588 (r_xor rfl (hA.ev rfl) (hA.ev rfl))) (fun ac hA => ?_) rfl rfl rfl
    obtain ⟨x589, h590, hF⟩ := ltt_ hF
    refine x_val (v := .int .u32 x589) hA (rv_i h590 (r_and rfl (hA.ev rfl) (hA.ev rfl))) (fun ac hA => ?_) rfl rfl rfl
    obtain ⟨x591, h592, hF⟩ := bnd hF
    refine x_iaA Tryd.underlying109 sz79 (hS.rdl 0 (hG0.rdl qz hZ) rfl) h592 hA (fun ac hA => ?_) rfl rfl rfl rfl rfl rfl
    obtain ⟨cs, hV, hc593⟩ := el (hS.rdl 0 (hG0.rdl qz hZ) rfl) h592
    obtain rfl := hV
    refine x_ld Tryd.underlying79 (hc593 0 _ rfl) hA (fun ac hA => ?_) rfl rfl rfl rfl rfl rfl
    refine x_move hA (fun ac hA => ?_) rfl rfl rfl rfl rfl
    obtain ⟨x594, h595, hF⟩ := ltt_ hF
    refine x_val (v := .int .u32 x594) hA (rv_i h595 (r_shr rfl (hA.ev rfl) (hA.ev rfl) (by decide))) (fun ac hA => ?_) rfl rfl rfl
    obtain ⟨x596, h597, hF⟩ := ltt_ hF
    refine x_val (v := .int .u32 x596) hA (rv_i h597 (r_xor rfl (hA.ev rfl) (hA.ev rfl))) (fun ac hA => ?_) rfl rfl rfl
    refine x_assign hA (fun ac hA => ?_) rfl rfl rfl rfl rfl
    refine wpList_nil ?_
    refine hKx566 _ _ ?_
    refine hK565 _ _ ?_
    refine wp_reg ?_
    obtain ⟨x598, h599, hF⟩ := ltt_ hF
    refine x_val (v := .int .i64 x598) hA (rv_i h599 (r_add rfl (hA.ev rfl) (hA.ev rfl))) (fun ac hA => ?_) rfl rfl rfl
    refine x_move hA (fun ac hA => ?_) rfl rfl rfl rfl rfl
    refine wpList_nil ?_
    cases hF
    exact ⟨_, N560_ _ rfl, hA.sub _ rfl, hS⟩
  replace hF := iff' hb564 hF
  refine wp_exit ?_
  cases hF
  exact hx560_0 x518 (T560_ _ rfl) ac w (hA.sub _ rfl) hS
set_option maxRecDepth 100000 in
set_option maxHeartbeats 4000000 in
theorem F_page_number {r : World} {L : List HP} {w : World} (a0 : (List Int)) (A0 : Option Addr) (n0 : Nat) (c0 : Nat) {y : (Int)} (hF : page_number a0 = some y) (ha0 : RdL L (kI .u8) A0 n0 c0 a0) (hS : SH r (L) w) :
    Ret Tryd.prog 37 #[.slice A0 n0 c0] w fun v w' => v = .int .u32 y ∧ SH r (L) w' := by
  refine enter Tryd.func37 rfl Tryd.ntmps37 [(0, .slice A0 n0 c0)] rfl (by simp) ?_
  intro ac hA Qf hQ hQn
  unfold page_number at hF
  refine wp_seq_k fun K101 hK101 => ?_
  refine wp_reg ?_
  refine x_assign hA (fun ac hA => ?_) rfl rfl rfl rfl rfl
  refine wpList_nil ?_
  refine hK101 _ _ ?_
  refine wp_seq_k fun K102 hK102 => ?_
  refine wp_draw [0, 1, 3, 7, 0, 16, 48, 112, 240, 511, 0, 1024, 3072, 7168, 15360, 32767, 0, 65536, 196608, 458752, 983040, 2097151, 4194303] [] rfl hA hS (by kernel_rfl) (by kernel_rfl) (by kernel_rfl) (by kernel_rfl) fun w hS => ?_
  obtain ⟨x103, h104, hF⟩ := bnd hF
  obtain ⟨cs, hV, hc105⟩ := el (hS.rdl 0 ha0 rfl) h104
  obtain rfl := hV
  obtain ⟨x106, h107, hF⟩ := ltt_ hF
  obtain ⟨x108, h109, hF⟩ := bnd hF
  obtain ⟨cs, hV, hc110⟩ := el (hS.rdl 0 ha0 rfl) h109
  obtain rfl := hV
  obtain ⟨x111, h112, hF⟩ := ltt_ hF
  obtain ⟨x113, h114, hF⟩ := ltt_ hF
  obtain ⟨x115, h116, hF⟩ := ltt_ hF
  obtain ⟨x117, h118, hF⟩ := bnd hF
  obtain ⟨cs, hV, hc119⟩ := el (hS.rdl 0 ha0 rfl) h118
  obtain rfl := hV
  obtain ⟨x120, h121, hF⟩ := ltt_ hF
  obtain ⟨x122, h123, hF⟩ := ltt_ hF
  obtain ⟨x124, h125, hF⟩ := ltt_ hF
  obtain ⟨x126, h127, hF⟩ := bnd hF
  obtain ⟨cs, hV, hc128⟩ := el (hS.rdl 0 ha0 rfl) h127
  obtain rfl := hV
  obtain ⟨x129, h130, hF⟩ := ltt_ hF
  obtain ⟨x131, h132, hF⟩ := ltt_ hF
  obtain ⟨x133, h134, hF⟩ := ltt_ hF
  refine ⟨[(0, .slice A0 n0 c0), (1, .pointer (some (ea A0 ((0 : Int).toNat * 1)))), (2, .int .u8 x103), (3, .int .u32 x106), (4, .slice A0 n0 c0), (5, .pointer (some (ea A0 ((1 : Int).toNat * 1)))), (6, .int .u8 x108), (7, .int .u32 x111), (8, .int .u32 x113), (9, .int .u32 x115), (10, .slice A0 n0 c0), (11, .pointer (some (ea A0 ((2 : Int).toNat * 1)))), (12, .int .u8 x117), (13, .int .u32 x120), (14, .int .u32 x122), (15, .int .u32 x124), (16, .slice A0 n0 c0), (17, .pointer (some (ea A0 ((3 : Int).toNat * 1)))), (18, .int .u8 x126), (19, .int .u32 x129), (20, .int .u32 x131), (21, .int .u32 x133), (22, .int .u32 x133)], ?_⟩
  refine dEnd [0, 1, 2, 3, 4, 5, 6, 7, 8, 9, 10, 11, 12, 13, 14, 15, 16, 17, 18, 19, 20, 21, 22] (by kernel_rfl) ⟨pu rfl rfl [(0, .slice A0 n0 c0)] (fun ac hA => y_move hA rfl rfl) rfl rfl, pu rfl rfl [(3, .slice A0 n0 c0)] (fun ac hA => y_ia Tryd.underlying22 sz5 (hS.rdl 0 ha0 rfl) h104 hA rfl rfl rfl) rfl rfl, pu rfl rfl [(4, .pointer (some (ea A0 ((0 : Int).toNat * 1))))] (fun ac hA => y_ld Tryd.underlying5 (hc105 0 _ rfl) hA rfl rfl rfl) rfl rfl, pu rfl rfl [(5, .int .u8 x103)] (fun ac hA => (rv_i h107 (r_convI Tryd.underlying5 Tryd.underlying79 rfl (hA.ev rfl)) : RunV _ _ _ _ (.int .u32 x106))) rfl rfl, pu rfl rfl [(0, .slice A0 n0 c0)] (fun ac hA => y_move hA rfl rfl) rfl rfl, pu rfl rfl [(7, .slice A0 n0 c0)] (fun ac hA => y_ia Tryd.underlying22 sz5 (hS.rdl 0 ha0 rfl) h109 hA rfl rfl rfl) rfl rfl, pu rfl rfl [(8, .pointer (some (ea A0 ((1 : Int).toNat * 1))))] (fun ac hA => y_ld Tryd.underlying5 (hc110 0 _ rfl) hA rfl rfl rfl) rfl rfl, pu rfl rfl [(9, .int .u8 x108)] (fun ac hA => (rv_i h112 (r_convI Tryd.underlying5 Tryd.underlying79 rfl (hA.ev rfl)) : RunV _ _ _ _ (.int .u32 x111))) rfl rfl, pu rfl rfl [(10, .int .u32 x111)] (fun ac hA => (rv_i h114 (r_shl rfl (hA.ev rfl) (hA.ev rfl) (by decide)) : RunV _ _ _ _ (.int .u32 x113))) rfl rfl, pu rfl rfl [(6, .int .u32 x106), (11, .int .u32 x113)] (fun ac hA => (rv_i h116 (r_or rfl (hA.ev rfl) (hA.ev rfl)) : RunV _ _ _ _ (.int .u32 x115))) rfl rfl, pu rfl rfl [(0, .slice A0 n0 c0)] (fun ac hA => y_move hA rfl rfl) rfl rfl, pu rfl rfl [(13, .slice A0 n0 c0)] (fun ac hA => y_ia Tryd.underlying22 sz5 (hS.rdl 0 ha0 rfl) h118 hA rfl rfl rfl) rfl rfl, pu rfl rfl [(14, .pointer (some (ea A0 ((2 : Int).toNat * 1))))] (fun ac hA => y_ld Tryd.underlying5 (hc119 0 _ rfl) hA rfl rfl rfl) rfl rfl, pu rfl rfl [(15, .int .u8 x117)] (fun ac hA => (rv_i h121 (r_convI Tryd.underlying5 Tryd.underlying79 rfl (hA.ev rfl)) : RunV _ _ _ _ (.int .u32 x120))) rfl rfl, pu rfl rfl [(16, .int .u32 x120)] (fun ac hA => (rv_i h123 (r_shl rfl (hA.ev rfl) (hA.ev rfl) (by decide)) : RunV _ _ _ _ (.int .u32 x122))) rfl rfl, pu rfl rfl [(12, .int .u32 x115), (17, .int .u32 x122)] (fun ac hA => (rv_i h125 (r_or rfl (hA.ev rfl) (hA.ev rfl)) : RunV _ _ _ _ (.int .u32 x124))) rfl rfl, pu rfl rfl [(0, .slice A0 n0 c0)] (fun ac hA => y_move hA rfl rfl) rfl rfl, pu rfl rfl [(19, .slice A0 n0 c0)] (fun ac hA => y_ia Tryd.underlying22 sz5 (hS.rdl 0 ha0 rfl) h127 hA rfl rfl rfl) rfl rfl, pu rfl rfl [(20, .pointer (some (ea A0 ((3 : Int).toNat * 1))))] (fun ac hA => y_ld Tryd.underlying5 (hc128 0 _ rfl) hA rfl rfl rfl) rfl rfl, pu rfl rfl [(21, .int .u8 x126)] (fun ac hA => (rv_i h130 (r_convI Tryd.underlying5 Tryd.underlying79 rfl (hA.ev rfl)) : RunV _ _ _ _ (.int .u32 x129))) rfl rfl, pu rfl rfl [(22, .int .u32 x129)] (fun ac hA => (rv_i h132 (r_shl rfl (hA.ev rfl) (hA.ev rfl) (by decide)) : RunV _ _ _ _ (.int .u32 x131))) rfl rfl, pu rfl rfl [(18, .int .u32 x124), (23, .int .u32 x131)] (fun ac hA => (rv_i h134 (r_or rfl (hA.ev rfl) (hA.ev rfl)) : RunV _ _ _ _ (.int .u32 x133))) rfl rfl, pu rfl rfl [(24, .int .u32 x133)] (fun ac hA => y_assign hA rfl rfl) rfl rfl, trivial⟩ ⟨by kernel_rfl, by kernel_rfl⟩ [(2, .int .u32 x133)] rfl (fun ac hA => ?_)
  refine hK102 _ _ ?_
  refine wp_ret ?_
  cases hF
  refine hQ _ _ ?_
  refine lv Tryd.results37 hA rfl ?_
  exact ⟨rfl, hS⟩
set_option maxRecDepth 100000 in
set_option maxHeartbeats 4000000 in
theorem F_slices_Clone_byte_byte {r : World} {L : List HP} {w : World} (a0 : (List Int)) (A0 : Option Addr) (n0 : Nat) (c0 : Nat) {y : ((List Int))} (hF : slices_Clone_byte_byte a0 = some y) (ha0 : RdL L (kI .u8) A0 n0 c0 a0) (hS : SH r (L) w) :
    Ret Tryd.prog 39 #[.slice A0 n0 c0] w fun v w' => ∃ (B0 : Option Addr) (m0 : Nat) (d0 : Nat), v = .slice B0 m0 d0 ∧ SH r (own (kI .u8) 5 B0 m0 d0 y :: L) w' := by
  refine enter Tryd.func39 rfl Tryd.ntmps39 [(0, .slice A0 n0 c0)] rfl (by simp) ?_
  intro ac hA Qf hQ hQn
  unfold slices_Clone_byte_byte at hF
  refine wp_seq_k fun K101 hK101 => ?_
  refine wp_reg ?_
  refine x_assign hA (fun ac hA => ?_) rfl rfl rfl rfl rfl
  refine wpList_nil ?_
  refine hK101 _ _ ?_
  refine wp_seq_k fun K102 hK102 => ?_
  refine wp_seq_k fun K103 hK103 => ?_
  refine wp_reg ?_
  refine x_move hA (fun ac hA => ?_) rfl rfl rfl rfl rfl
  rcases A0 with _ | ad104
  · replace hF := nil_l (RdL.none_nil ha0 (hS.sfx 0)) hF
    refine x_val (v := .bool true) hA (r_eqNilS (p := none) Tryd.underlying22 rfl (hA.ev rfl) (hA.ev rfl)) (fun ac hA => ?_) rfl rfl rfl
    refine wpList_nil ?_
    refine hK103 _ _ ?_
    refine c_t (b := true) rfl hA ?_ rfl
    refine wp_seq_k fun K105 hK105 => ?_
    refine wp_reg ?_
    refine x_assign hA (fun ac hA => ?_) rfl rfl rfl rfl rfl
    refine wpList_nil ?_
    refine hK105 _ _ ?_
    refine wp_ret ?_
    replace hS := SH.nil_own (d := (kI .u8)) (e := 5) hS
    cases hF
    refine hQ _ _ ?_
    refine lv Tryd.results39 hA rfl ?_
    exact ⟨none, 0, 0, rfl, hS⟩
  replace hF := nil_r hF
  refine x_val (v := .bool false) hA (r_eqNilS (p := some ad104) Tryd.underlying22 rfl (hA.ev rfl) (hA.ev rfl)) (fun ac hA => ?_) rfl rfl rfl
  refine wpList_nil ?_
  refine hK103 _ _ ?_
  refine c_f (b := false) rfl hA ?_ rfl
  refine wp_skip ?_
  refine hK102 _ _ ?_
  refine wp_seq_k fun K106 hK106 => ?_
  refine wp_reg ?_
  refine x_bsl (d := (kI .u8)) (e := 5) (ps := #[]) (cells := []) (xs := []) (fun w => by kernel_rfl) rfl rfl hA hS (fun g107 ac w hS hA => ?_) rfl rfl rfl rfl rfl rfl
  refine x_move hA (fun ac hA => ?_) rfl rfl rfl rfl rfl
  obtain ⟨h108, hF⟩ := chk_some hF
  have hr := hS.rdl 1 ha0 rfl
  refine x_app 0 inf5 Tryd.underlying22 hA hS hr.1 hr.2.1 h108 rfl (fun A109 n110 c111 ac w hS hA => ?_) rfl rfl rfl rfl rfl rfl rfl rfl rfl
  rw [List.nil_append] at hS
  refine x_assign hA (fun ac hA => ?_) rfl rfl rfl rfl rfl
  refine wpList_nil ?_
  refine hK106 _ _ ?_
  refine wp_ret ?_
  cases hF
  refine hQ _ _ ?_
  refine lv Tryd.results39 hA rfl ?_
  exact ⟨A109, n110, c111, rfl, hS⟩
set_option maxRecDepth 100000 in
set_option maxHeartbeats 4000000 in
theorem F_page_Read {r : World} {L : List HP} {w : World} {Z : Nat → Prop} {wz : World} (a0 : (List Int)) (a1 : Int) (A0 : Option Addr) (n0 : Nat) (c0 : Nat) {y : (Int × (List Int) × Int × Int)} (hF : page_Read a0 a1 = some y) (qz : Nat) (hZ : L[qz]? = some (zone Z wz)) (ha0 : Imm Z wz (kI .u8) A0 n0 c0 a0) (hG0 : Imm Z wz (kI .u32) (some ⟨0, 0, none⟩) 16 16 gl0) (hS : SH r (L) w) :
    Ret Tryd.prog 12 #[.slice A0 n0 c0, .int .i64 a1] w fun v w' => ∃ (B1 : Option Addr) (m1 : Nat) (d1 : Nat), v = .tuple #[(.int .u8 y.1), (.slice B1 m1 d1), (.int .i64 y.2.2.1), (.int .i64 y.2.2.2)] ∧ SH r (own (kI .u8) 5 B1 m1 d1 y.2.1 :: L) w' := by
  refine enter Tryd.func12 rfl Tryd.ntmps12 [(0, .slice A0 n0 c0), (1, .int .i64 a1)] rfl (by simp) ?_
  intro ac hA Qf hQ hQn
  unfold page_Read at hF
  refine wp_seq_k fun K101 hK101 => ?_
  refine wp_reg ?_
  refine x_assign hA (fun ac hA => ?_) rfl rfl rfl rfl rfl
  refine x_assign hA (fun ac hA => ?_) rfl rfl rfl rfl rfl
  refine x_assign hA (fun ac hA => ?_) rfl rfl rfl rfl rfl
  refine x_assign hA (fun ac hA => ?_) rfl rfl rfl rfl rfl
  refine wpList_nil ?_
  refine hK101 _ _ ?_
  refine wp_seq_k fun K102 hK102 => ?_
  refine wp_seq_k fun K103 hK103 => ?_
  have hj1 : ∀ (b105 : Bool), page_Read_j1 a0 a1 b105 = some y → ∀ (ac : Act) (w : World), FR 60 [] ac [(0, .slice A0 n0 c0), (1, .int .i64 a1), (18, .bool b105)] → SH r (L) w → K103 ac w := by
    intro b105 hF ac w hA hS
    unfold page_Read_j1 at hF
    refine hK103 _ _ ?_
    refine c_if hA rfl (fun hb106 => ?_) fun hb106 => ?_
    · replace hF := ift hb106 hF
      refine wp_seq_k fun K107 hK107 => ?_
      refine wp_reg ?_
      refine x_assign hA (fun ac hA => ?_) rfl rfl rfl rfl rfl
      refine x_assign hA (fun ac hA => ?_) rfl rfl rfl rfl rfl
      refine x_assign hA (fun ac hA => ?_) rfl rfl rfl rfl rfl
      refine x_assign hA (fun ac hA => ?_) rfl rfl rfl rfl rfl
      refine wpList_nil ?_
      refine hK107 _ _ ?_
      refine wp_ret ?_
      replace hS := SH.nil_own (d := (kI .u8)) (e := 5) hS
      cases hF
      refine hQ _ _ ?_
      refine lv4 Tryd.results12 hA rfl rfl rfl rfl ?_
      exact ⟨none, 0, 0, rfl, hS⟩
    replace hF := iff' hb106 hF
    refine wp_skip ?_
    refine hK102 _ _ ?_
    refine wp_seq_k fun K108 hK108 => ?_
    refine wp_reg ?_
    refine x_move hA (fun ac hA => ?_) rfl rfl rfl rfl rfl
    refine x_move hA (fun ac hA => ?_) rfl rfl rfl rfl rfl
    obtain ⟨l109, h110, hF⟩ := bnd hF
    obtain ⟨A113, n114, c115, e112, h111⟩ := imm_lc ha0 h110
    refine x_val (v := .slice A113 n114 c115) hA (rv_e e112 (r_slice_l Tryd.underlying22 sz5 rfl (hA.ev rfl) (hA.ev rfl) (cutq (hS.rdl 0 (ha0.rdl qz hZ) rfl) h110).1 (cutq (hS.rdl 0 (ha0.rdl qz hZ) rfl) h110).2.2.2.2.2)) (fun ac hA => ?_) rfl rfl rfl
    refine x_assign hA (fun ac hA => ?_) rfl rfl rfl rfl rfl
    refine wpList_nil ?_
    refine hK108 _ _ ?_
    refine wp_seq_k fun K116 hK116 => ?_
    refine wp_seq_k fun K117 hK117 => ?_
    refine wp_reg ?_
    refine x_move hA (fun ac hA => ?_) rfl rfl rfl rfl rfl
    refine x_len Tryd.underlying22 (hS.rdl 0 (h111.rdl qz hZ) rfl).2.1 hA (fun ac hA => ?_) rfl rfl rfl rfl rfl
    refine x_val hA (r_ltI rfl (hA.ev rfl) (hA.ev rfl)) (fun ac hA => ?_) rfl rfl rfl
    refine wpList_nil ?_
    refine hK117 _ _ ?_
    refine c_if hA rfl (fun hb118 => ?_) fun hb118 => ?_
    · replace hF := ift hb118 hF
      refine wp_seq_k fun K119 hK119 => ?_
      refine wp_reg ?_
      refine x_assign hA (fun ac hA => ?_) rfl rfl rfl rfl rfl
      refine x_assign hA (fun ac hA => ?_) rfl rfl rfl rfl rfl
      refine x_assign hA (fun ac hA => ?_) rfl rfl rfl rfl rfl
      refine x_assign hA (fun ac hA => ?_) rfl rfl rfl rfl rfl
      refine wpList_nil ?_
      refine hK119 _ _ ?_
      refine wp_ret ?_
      replace hS := SH.nil_own (d := (kI .u8)) (e := 5) hS
      cases hF
      refine hQ _ _ ?_
      refine lv4 Tryd.results12 hA rfl rfl rfl rfl ?_
      exact ⟨none, 0, 0, rfl, hS⟩
    replace hF := iff' hb118 hF
    refine wp_skip ?_
    refine hK116 _ _ ?_
    refine wp_seq_k fun K120 hK120 => ?_
    refine wp_reg ?_
    refine x_move hA (fun ac hA => ?_) rfl rfl rfl rfl rfl
    obtain ⟨y121, h122, hF⟩ := bnd hF
    refine x_call en37 hA (F_page_number (L := L) l109 A113 n114 c115 h122 (RdL.sfx 0 rfl (h111.rdl qz hZ)) hS) (fun v ac w hR hA => ?_) rfl rfl rfl rfl rfl
    obtain ⟨rfl, hS⟩ := hR
    refine x_assign hA (fun ac hA => ?_) rfl rfl rfl rfl rfl
    refine wpList_nil ?_
    refine hK120 _ _ ?_
    refine wp_seq_k fun K123 hK123 => ?_
    refine wp_seq_k fun K124 hK124 => ?_
    have hj2 : ∀ (b130 : Bool), page_Read_j2 a1 l109 y121 b130 = some y → ∀ (ac : Act) (w : World), FR 60 [] ac [(1, .int .i64 a1), (8, .slice A113 n114 c115), (9, .int .u32 y121), (36, .bool b130)] → SH r (L) w → K124 ac w := by
      intro b130 hF ac w hA hS
      unfold page_Read_j2 at hF
      refine hK124 _ _ ?_
      refine c_if hA rfl (fun hb131 => ?_) fun hb131 => ?_
      · replace hF := ift hb131 hF
        refine wp_seq_k fun K132 hK132 => ?_
        refine wp_reg ?_
        refine x_assign hA (fun ac hA => ?_) rfl rfl rfl rfl rfl
        refine x_assign hA (fun ac hA => ?_) rfl rfl rfl rfl rfl
        refine x_assign hA (fun ac hA => ?_) rfl rfl rfl rfl rfl
        refine x_assign hA (fun ac hA => ?_) rfl rfl rfl rfl rfl
        refine wpList_nil ?_
        refine hK132 _ _ ?_
        refine wp_ret ?_
        replace hS := SH.nil_own (d := (kI .u8)) (e := 5) hS
        cases hF
        refine hQ _ _ ?_
        refine lv4 Tryd.results12 hA rfl rfl rfl rfl ?_
        exact ⟨none, 0, 0, rfl, hS⟩
      replace hF := iff' hb131 hF
      refine wp_skip ?_
      refine hK123 _ _ ?_
      refine wp_seq_k fun K133 hK133 => ?_
      refine wp_reg ?_
      refine x_move hA (fun ac hA => ?_) rfl rfl rfl rfl rfl
      obtain ⟨x134, h135, hF⟩ := ltt_ hF
      refine x_val (v := .int .i64 x134) hA (rv_i h135 (r_convI Tryd.underlying79 Tryd.underlying3 rfl (hA.ev rfl))) (fun ac hA => ?_) rfl rfl rfl
      obtain ⟨x136, h137, hF⟩ := ltt_ hF
      refine x_val (v := .int .i64 x136) hA (rv_i h137 (r_add rfl (hA.ev rfl) (hA.ev rfl))) (fun ac hA => ?_) rfl rfl rfl
      refine x_assign hA (fun ac hA => ?_) rfl rfl rfl rfl rfl
      refine wpList_nil ?_
      refine hK133 _ _ ?_
      refine wp_seq_k fun K138 hK138 => ?_
      refine wp_seq_k fun K139 hK139 => ?_
      refine wp_draw [0, 0, 3, 7, 0, 0, 48, 127, 255] [3, 7] rfl hA hS (by kernel_rfl) (by kernel_rfl) (by kernel_rfl) (by kernel_rfl) fun w hS => ?_
      obtain ⟨l140, h141, hF⟩ := bnd hF
      obtain ⟨A144, n145, c146, e143, h142⟩ := imm_hc h111 h141
      obtain ⟨l147, h148, hF⟩ := bnd hF
      obtain ⟨A151, n152, c153, e150, h149⟩ := imm_lc h111 h148
      refine ⟨[(0, .slice A113 n114 c115), (1, .int .i64 x136), (2, .slice A144 n145 c146), (4, .slice A113 n114 c115), (5, .int .i64 x136), (6, .slice A151 n152 c153)], ?_⟩
      refine dEff [0, 1, 2, 4, 5, 6] [3] (by kernel_rfl) ⟨pu rfl rfl [(8, .slice A113 n114 c115)] (fun ac hA => y_move hA rfl rfl) rfl rfl, pu rfl rfl [(10, .int .i64 x136)] (fun ac hA => y_move hA rfl rfl) rfl rfl, pu rfl rfl [(40, .slice A113 n114 c115), (41, .int .i64 x136)] (fun ac hA => (rv_e e143 (r_slice_h Tryd.underlying22 sz5 rfl (hA.ev rfl) (hA.ev rfl) (cutq (hS.rdl 0 (h111.rdl qz hZ) rfl) h141).2.2.2.2.1 (cutq (hS.rdl 0 (h111.rdl qz hZ) rfl) h141).2.2.1) : RunV _ _ _ _ (.slice A144 n145 c146))) rfl rfl, pu rfl rfl [(8, .slice A113 n114 c115)] (fun ac hA => y_move hA rfl rfl) rfl rfl, pu rfl rfl [(10, .int .i64 x136)] (fun ac hA => y_move hA rfl rfl) rfl rfl, pu rfl rfl [(44, .slice A113 n114 c115), (45, .int .i64 x136)] (fun ac hA => (rv_e e150 (r_slice_l Tryd.underlying22 sz5 rfl (hA.ev rfl) (hA.ev rfl) (cutq (hS.rdl 0 (h111.rdl qz hZ) rfl) h148).1 (cutq (hS.rdl 0 (h111.rdl qz hZ) rfl) h148).2.2.2.2.2) : RunV _ _ _ _ (.slice A151 n152 c153))) rfl rfl, trivial⟩ (by kernel_rfl) (by kernel_rfl) ⟨ef rfl [(42, .slice A144 n145 c146)] (fun ac hA K hK => ?_) rfl rfl, trivial⟩
      obtain ⟨y154, h155, hF⟩ := bnd hF
      refine z_call en38 hA (F_page_Sum (L := L) l140 A144 n145 c146 h155 (qz + 0) hZ (RdL.sfx 0 rfl (h142.rdl qz hZ)) hG0 hS) (fun v w hR => ?_) rfl rfl
      obtain ⟨rfl, hS⟩ := hR
      refine hK _ [] _ rfl ?_
      refine dEff [4, 5, 6] [7] (by kernel_rfl) ⟨pu rfl rfl [(8, .slice A113 n114 c115)] (fun ac hA => y_move hA rfl rfl) rfl rfl, pu rfl rfl [(10, .int .i64 x136)] (fun ac hA => y_move hA rfl rfl) rfl rfl, pu rfl rfl [(44, .slice A113 n114 c115), (45, .int .i64 x136)] (fun ac hA => (rv_e e150 (r_slice_l Tryd.underlying22 sz5 rfl (hA.ev rfl) (hA.ev rfl) (cutq (hS.rdl 0 (h111.rdl qz hZ) rfl) h148).1 (cutq (hS.rdl 0 (h111.rdl qz hZ) rfl) h148).2.2.2.2.2) : RunV _ _ _ _ (.slice A151 n152 c153))) rfl rfl, trivial⟩ (by kernel_rfl) (by kernel_rfl) ⟨ef rfl [(46, .slice A151 n152 c153)] (fun ac hA K hK => ?_) rfl rfl, trivial⟩
      obtain ⟨y156, h157, hF⟩ := bnd hF
      refine z_call en37 hA (F_page_number (L := L) l147 A151 n152 c153 h157 (RdL.sfx 0 rfl (h149.rdl qz hZ)) hS) (fun v w hR => ?_) rfl rfl
      obtain ⟨rfl, hS⟩ := hR
      refine hK _ [(8, .bool (y154 != y156))] _ rfl ?_
      refine dEnd [8] (by kernel_rfl) ⟨pu rfl rfl [(43, .int .u32 y154), (47, .int .u32 y156)] (fun ac hA => r_neI rfl (hA.ev rfl) (hA.ev rfl)) rfl rfl, trivial⟩ ⟨by kernel_rfl, by kernel_rfl⟩ [(1, .int .i64 a1), (8, .slice A113 n114 c115), (10, .int .i64 x136), (48, .bool (y154 != y156))] rfl (fun ac hA => ?_)
      refine hK139 _ _ ?_
      refine c_if hA rfl (fun hb158 => ?_) fun hb158 => ?_
      · replace hF := ift hb158 hF
        refine wp_seq_k fun K159 hK159 => ?_
        refine wp_reg ?_
        refine x_assign hA (fun ac hA => ?_) rfl rfl rfl rfl rfl
        refine x_assign hA (fun ac hA => ?_) rfl rfl rfl rfl rfl
        refine x_assign hA (fun ac hA => ?_) rfl rfl rfl rfl rfl
        refine x_assign hA (fun ac hA => ?_) rfl rfl rfl rfl rfl
        refine wpList_nil ?_
        refine hK159 _ _ ?_
        refine wp_ret ?_
        replace hS := SH.nil_own (d := (kI .u8)) (e := 5) hS
        cases hF
        refine hQ _ _ ?_
        refine lv4 Tryd.results12 hA rfl rfl rfl rfl ?_
        exact ⟨none, 0, 0, rfl, hS⟩
      replace hF := iff' hb158 hF
      refine wp_skip ?_
      refine hK138 _ _ ?_
      refine wp_seq_k fun K160 hK160 => ?_
      refine wp_draw [0, 1, 3, 0, 0, 24, 56, 0, 0, 384, 896, 127, 2175, 8191, 16383] [6] rfl hA hS (by kernel_rfl) (by kernel_rfl) (by kernel_rfl) (by kernel_rfl) fun w hS => ?_
      obtain ⟨x161, h162, hF⟩ := bnd hF
      obtain ⟨cs, hV, hc163⟩ := el (hS.rdl 0 (h111.rdl qz hZ) rfl) h162
      obtain rfl := hV
      obtain ⟨l164, h165, hF⟩ := bnd hF
      obtain ⟨A168, n169, c170, e167, h166⟩ := imm_lhc h111 h165
      obtain ⟨x171, h172, hF⟩ := ltt_ hF
      obtain ⟨x173, h174, hF⟩ := ltt_ hF
      refine ⟨[(0, .slice A113 n114 c115), (1, .pointer (some (ea A113 ((4 : Int).toNat * 1)))), (2, .int .u8 x161), (3, .slice A113 n114 c115), (4, .int .i64 x136), (5, .slice A168 n169 c170), (7, .int .i64 a1), (8, .int .i64 x136), (9, .int .i64 x171), (10, .int .i64 x173)], ?_⟩
      refine dEff [0, 1, 2, 3, 4, 5, 7, 8, 9, 10] [6] (by kernel_rfl) ⟨pu rfl rfl [(8, .slice A113 n114 c115)] (fun ac hA => y_move hA rfl rfl) rfl rfl, pu rfl rfl [(49, .slice A113 n114 c115)] (fun ac hA => y_ia Tryd.underlying22 sz5 (hS.rdl 0 (h111.rdl qz hZ) rfl) h162 hA rfl rfl rfl) rfl rfl, pu rfl rfl [(50, .pointer (some (ea A113 ((4 : Int).toNat * 1))))] (fun ac hA => y_ld Tryd.underlying5 (hc163 0 _ rfl) hA rfl rfl rfl) rfl rfl, pu rfl rfl [(8, .slice A113 n114 c115)] (fun ac hA => y_move hA rfl rfl) rfl rfl, pu rfl rfl [(10, .int .i64 x136)] (fun ac hA => y_move hA rfl rfl) rfl rfl, pu rfl rfl [(52, .slice A113 n114 c115), (53, .int .i64 x136)] (fun ac hA => (rv_e e167 (r_slice_lh Tryd.underlying22 sz5 rfl (hA.ev rfl) (hA.ev rfl) (hA.ev rfl) (cutq (hS.rdl 0 (h111.rdl qz hZ) rfl) h165).1 (cutq (hS.rdl 0 (h111.rdl qz hZ) rfl) h165).2.1 (cutq (hS.rdl 0 (h111.rdl qz hZ) rfl) h165).2.2.1) : RunV _ _ _ _ (.slice A168 n169 c170))) rfl rfl, pu rfl rfl [(1, .int .i64 a1)] (fun ac hA => y_move hA rfl rfl) rfl rfl, pu rfl rfl [(10, .int .i64 x136)] (fun ac hA => y_move hA rfl rfl) rfl rfl, pu rfl rfl [(56, .int .i64 a1), (57, .int .i64 x136)] (fun ac hA => (rv_i h172 (r_add rfl (hA.ev rfl) (hA.ev rfl)) : RunV _ _ _ _ (.int .i64 x171))) rfl rfl, pu rfl rfl [(58, .int .i64 x171)] (fun ac hA => (rv_i h174 (r_add rfl (hA.ev rfl) (hA.ev rfl)) : RunV _ _ _ _ (.int .i64 x173))) rfl rfl, trivial⟩ (by kernel_rfl) (by kernel_rfl) ⟨ef rfl [(54, .slice A168 n169 c170)] (fun ac hA K hK => ?_) rfl rfl, trivial⟩
      obtain ⟨y175, h176, hF⟩ := bnd hF
      refine z_call en39 hA (F_slices_Clone_byte_byte (L := L) l164 A168 n169 c170 h176 (RdL.sfx 0 rfl (h166.rdl qz hZ)) hS) (fun v w hR => ?_) rfl rfl
      obtain ⟨B177, m178, d179, rfl, hS⟩ := hR
      obtain ⟨cs, hV, hc180⟩ := el (hS.rdl 1 (h111.rdl qz hZ) rfl) h162
      obtain rfl := hV
      refine hK _ [(11, .int .u8 x161), (12, .slice B177 m178 d179), (13, .int .i64 x173), (14, .int .i64 0)] _ rfl ?_
      refine dEnd [0, 1, 2, 7, 8, 9, 10, 11, 12, 13, 14] (by kernel_rfl) ⟨pu rfl rfl [(8, .slice A113 n114 c115)] (fun ac hA => y_move hA rfl rfl) rfl rfl, pu rfl rfl [(49, .slice A113 n114 c115)] (fun ac hA => y_ia Tryd.underlying22 sz5 (hS.rdl 1 (h111.rdl qz hZ) rfl) h162 hA rfl rfl rfl) rfl rfl, pu rfl rfl [(50, .pointer (some (ea A113 ((4 : Int).toNat * 1))))] (fun ac hA => y_ld Tryd.underlying5 (hc180 0 _ rfl) hA rfl rfl rfl) rfl rfl, pu rfl rfl [(1, .int .i64 a1)] (fun ac hA => y_move hA rfl rfl) rfl rfl, pu rfl rfl [(10, .int .i64 x136)] (fun ac hA => y_move hA rfl rfl) rfl rfl, pu rfl rfl [(56, .int .i64 a1), (57, .int .i64 x136)] (fun ac hA => (rv_i h172 (r_add rfl (hA.ev rfl) (hA.ev rfl)) : RunV _ _ _ _ (.int .i64 x171))) rfl rfl, pu rfl rfl [(58, .int .i64 x171)] (fun ac hA => (rv_i h174 (r_add rfl (hA.ev rfl) (hA.ev rfl)) : RunV _ _ _ _ (.int .i64 x173))) rfl rfl, pu rfl rfl [(51, .int .u8 x161)] (fun ac hA => y_assign hA rfl rfl) rfl rfl, pu rfl rfl [(55, .slice B177 m178 d179)] (fun ac hA => y_assign hA rfl rfl) rfl rfl, pu rfl rfl [(59, .int .i64 x173)] (fun ac hA => y_assign hA rfl rfl) rfl rfl, pu rfl rfl [] (fun ac hA => y_assign hA rfl rfl) rfl rfl, trivial⟩ ⟨by kernel_rfl, by kernel_rfl⟩ [(4, .int .u8 x161), (5, .slice B177 m178 d179), (6, .int .i64 x173), (7, .int .i64 0)] rfl (fun ac hA => ?_)
      refine hK160 _ _ ?_
      refine wp_ret ?_
      cases hF
      refine hQ _ _ ?_
      refine lv4 Tryd.results12 hA rfl rfl rfl rfl ?_
      exact ⟨B177, m178, d179, rfl, hS⟩
    refine wp_reg ?_
    refine x_move hA (fun ac hA => ?_) rfl rfl rfl rfl rfl
    refine x_val hA (r_gtI rfl (hA.ev rfl) (hA.ev rfl)) (fun ac hA => ?_) rfl rfl rfl
    refine x_move hA (fun ac hA => ?_) rfl rfl rfl rfl rfl
    refine bcase (b := decide (1048576 < y121)) (fun hb181 => ?_) fun hb181 => ?_
    · replace hF := ift hb181 hF
      refine x_off hb181 hA (fun ac hA => ?_) rfl rfl rfl rfl rfl
      refine x_off hb181 hA (fun ac hA => ?_) rfl rfl rfl rfl rfl
      refine x_off hb181 hA (fun ac hA => ?_) rfl rfl rfl rfl rfl
      refine x_off hb181 hA (fun ac hA => ?_) rfl rfl rfl rfl rfl
      refine x_off hb181 hA (fun ac hA => ?_) rfl rfl rfl rfl rfl
      refine x_off hb181 hA (fun ac hA => ?_) rfl rfl rfl rfl rfl
      refine x_pickt hb181 hA (fun ac hA => ?_) rfl rfl rfl rfl rfl rfl
      refine wpList_nil ?_
      exact hj2 true hF ac w (hA.sub _ rfl) hS
    replace hF := iff' hb181 hF
    refine x_on hb181 hA ?_ rfl rfl rfl
    refine x_move hA (fun ac hA => ?_) rfl rfl rfl rfl rfl
    refine x_on hb181 hA ?_ rfl rfl rfl
    obtain ⟨x182, h183, hF⟩ := ltt_ hF
    refine x_val (v := .int .i64 x182) hA (rv_i h183 (r_convI Tryd.underlying79 Tryd.underlying3 rfl (hA.ev rfl))) (fun ac hA => ?_) rfl rfl rfl
    refine x_on hb181 hA ?_ rfl rfl rfl
    refine x_move hA (fun ac hA => ?_) rfl rfl rfl rfl rfl
    refine x_on hb181 hA ?_ rfl rfl rfl
    refine x_len Tryd.underlying22 (hS.rdl 0 (h111.rdl qz hZ) rfl).2.1 hA (fun ac hA => ?_) rfl rfl rfl rfl rfl
    refine x_on hb181 hA ?_ rfl rfl rfl
    obtain ⟨x184, h185, hF⟩ := ltt_ hF
    refine x_val (v := .int .i64 x184) hA (rv_i h185 (r_sub rfl (hA.ev rfl) (hA.ev rfl))) (fun ac hA => ?_) rfl rfl rfl
    refine x_on hb181 hA ?_ rfl rfl rfl
    refine x_val hA (r_gtI rfl (hA.ev rfl) (hA.ev rfl)) (fun ac hA => ?_) rfl rfl rfl
    refine x_pickf hb181 hA (fun ac hA => ?_) rfl rfl rfl rfl rfl rfl
    refine wpList_nil ?_
    exact hj2 (decide (x184 < x182)) hF ac w (hA.sub _ rfl) hS
  refine wp_reg ?_
  refine x_move hA (fun ac hA => ?_) rfl rfl rfl rfl rfl
  refine x_val hA (r_ltI rfl (hA.ev rfl) (hA.ev rfl)) (fun ac hA => ?_) rfl rfl rfl
  refine x_move hA (fun ac hA => ?_) rfl rfl rfl rfl rfl
  refine bcase (b := decide (a1 < 0)) (fun hb186 => ?_) fun hb186 => ?_
  · replace hF := ift hb186 hF
    refine x_off hb186 hA (fun ac hA => ?_) rfl rfl rfl rfl rfl
    refine x_off hb186 hA (fun ac hA => ?_) rfl rfl rfl rfl rfl
    refine x_off hb186 hA (fun ac hA => ?_) rfl rfl rfl rfl rfl
    refine x_off hb186 hA (fun ac hA => ?_) rfl rfl rfl rfl rfl
    refine x_pickt hb186 hA (fun ac hA => ?_) rfl rfl rfl rfl rfl rfl
    refine wpList_nil ?_
    exact hj1 true hF ac w (hA.sub _ rfl) hS
  replace hF := iff' hb186 hF
  refine x_on hb186 hA ?_ rfl rfl rfl
  refine x_move hA (fun ac hA => ?_) rfl rfl rfl rfl rfl
  refine x_on hb186 hA ?_ rfl rfl rfl
  refine x_move hA (fun ac hA => ?_) rfl rfl rfl rfl rfl
  refine x_on hb186 hA ?_ rfl rfl rfl
  refine x_len Tryd.underlying22 (hS.rdl 0 (ha0.rdl qz hZ) rfl).2.1 hA (fun ac hA => ?_) rfl rfl rfl rfl rfl
  refine x_on hb186 hA ?_ rfl rfl rfl
  refine x_val hA (r_gtI rfl (hA.ev rfl) (hA.ev rfl)) (fun ac hA => ?_) rfl rfl rfl
  refine x_pickf hb186 hA (fun ac hA => ?_) rfl rfl rfl rfl rfl rfl
  refine wpList_nil ?_
  exact hj1 (decide ((a0.length : Int) < a1)) hF ac w (hA.sub _ rfl) hS
end Go.Proofs.YthokgnonmcgkcaaDoor.M
namespace Go.Proofs.YthokgnonmcgkcaaDoor.M
open Go Go.RowKit Go.Proofs.YthokgnonmcgkcaaDoor.E
set_option linter.unusedVariables false
set_option linter.unusedSimpArgs false
noncomputable def r04_Sum_b1 (x20428 : Int) : Option (Int) :=
  ltt (ixor .u32 x20428 4294967295) fun x20430 => (some x20430)
noncomputable def r04_Sum_x1_0 (x24966 : Int) : Option (Int) :=
  r04_Sum_b1 x24966
noncomputable def r04_Sum_b2 (x22699 : Int) (x26948 : Int) : Option ((Int × Int) ⊕ ((Int))) :=
  ltt (IntKind.i64.wrap (x22699 + 1)) fun x26949 => (some (.inl (x26948, x26949)))
noncomputable def r04_Sum_x2_2 (x22699 : Int) (x27137 : Int) : Option ((Int × Int) ⊕ ((Int))) :=
  r04_Sum_b2 x22699 x27137
noncomputable def r04_Sum_b3 (x27042 : Int) (x27207 : Int) : Option ((Int × Int) ⊕ ((Int))) :=
  ltt (IntKind.i64.wrap (x27042 + 1)) fun x27208 => (some (.inl (x27207, x27208)))
noncomputable def r04_Sum_l2 (a0 : (List Int)) (x22699 : Int) (x27041 : Int) (x27042 : Int) : Option ((Int × Int) ⊕ ((Int))) :=
  if (decide (x27042 < 8)) = true then ((at_ a0 x22699).bind fun x27211 => (chk (0 ≤ x27042) (ltt (ishr .u8 x27211 x27042) fun x27215 => (ltt (IntKind.u32.wrap x27215) fun x27217 => (ltt (ixor .u32 x27041 x27217) fun x27219 => (ltt (x27219.tmod 2) fun x27221 => (ltt (IntKind.u32.wrap (x27041.tdiv 2)) fun x27224 => (if (x27221 == 1) = true then (ltt (ixor .u32 x27224 3988292384) fun x27228 => (r04_Sum_b3 x27042 x27228)) else (r04_Sum_b3 x27042 x27224))))))))) else (some (.inr (x27041)))
noncomputable def r04_Sum_l1 (a0 : (List Int)) (x22698 : Int) (x22699 : Int) : Option ((Int × Int) ⊕ ((Int))) :=
  if (decide (x22699 < (a0.length : Int))) = true then ((loop (fun s => r04_Sum_l2 a0 x22699 s.1 s.2) (x22698, 0)).bind fun t => r04_Sum_x2_2 x22699 t) else (some (.inr (x22698)))
noncomputable def r04_Sum (a0 : (List Int)) : Option (Int) :=
  (loop (fun s => r04_Sum_l1 a0 s.1 s.2) (4294967295, 0)).bind fun t => r04_Sum_x1_0 t
noncomputable def r04_four (a0 : Int) : Option ((List Int)) :=
  ltt (IntKind.u8.wrap a0) fun x103 => (ltt (IntKind.u32.wrap (a0.tdiv 256)) fun x105 => (ltt (IntKind.u8.wrap x105) fun x107 => (ltt (IntKind.u32.wrap (a0.tdiv 65536)) fun x109 => (ltt (IntKind.u8.wrap x109) fun x111 => (ltt (IntKind.u32.wrap (a0.tdiv 16777216)) fun x113 => (ltt (IntKind.u8.wrap x113) fun x115 => (some [x103, x107, x111, x115])))))))
noncomputable def r04_Read_j2 (a1 : Int) (l109 : (List Int)) (x296 : Int) (b302 : Bool) : Option (Int × (List Int) × Int × Int) :=
  if b302 = true then (some (0, [], 0, 3)) else (ltt (IntKind.i64.wrap (5 + x296)) fun x307 => ((cut_ l109 0 x307).bind fun l309 => (ltt (IntKind.i64.wrap (9 + x296)) fun x316 => ((cut_ l109 x307 x316).bind fun l318 => ((r04_Sum l309).bind fun y325 => ((r04_four y325).bind fun y327 => (if (!((bts y327) == (bts l318))) = true then (some (0, [], 0, 4)) else ((at_ l109 4).bind fun x335 => ((cut_ l109 5 x307).bind fun l338 => (ltt (IntKind.i64.wrap (a1 + 9)) fun x345 => (ltt (IntKind.i64.wrap (x345 + x296)) fun x347 => (some (x335, l338, x347, 0)))))))))))))
noncomputable def r04_Read_b1 (a1 : Int) (l109 : (List Int)) (x296 : Int) : Option (Int × (List Int) × Int × Int) :=
  if (decide (1048576 < x296)) = true then (r04_Read_j2 a1 l109 x296 true) else (ltt (IntKind.i64.wrap ((l109.length : Int) - 9)) fun x350 => (r04_Read_j2 a1 l109 x296 (decide (x350 < x296))))
noncomputable def r04_Read_x1_0 (a1 : Int) (l109 : (List Int)) (x390 : Int) : Option (Int × (List Int) × Int × Int) :=
  r04_Read_b1 a1 l109 x390
noncomputable def r04_Read_l1 (l109 : (List Int)) (x370 : Int) (x371 : Int) : Option ((Int × Int) ⊕ ((Int))) :=
  if (decide (0 ≤ x371)) = true then (ltt (IntKind.i64.wrap (x370 * 256)) fun x397 => ((at_ l109 x371).bind fun x399 => (ltt (IntKind.i64.wrap x399) fun x402 => (ltt (IntKind.i64.wrap (x397 + x402)) fun x404 => (ltt (IntKind.i64.wrap (x371 - 1)) fun x406 => (some (.inl (x404, x406)))))))) else (some (.inr (x370)))
noncomputable def r04_Read_j1 (a0 : (List Int)) (a1 : Int) (b105 : Bool) : Option (Int × (List Int) × Int × Int) :=
  if b105 = true then (some (0, [], 0, 1)) else ((cut_ a0 a1 (a0.length : Int)).bind fun l109 => (if (decide ((l109.length : Int) < 9)) = true then (some (0, [], 0, 3)) else ((loop (fun s => r04_Read_l1 l109 s.1 s.2) (0, 3)).bind fun t => r04_Read_x1_0 a1 l109 t)))
noncomputable def r04_Read (a0 : (List Int)) (a1 : Int) : Option (Int × (List Int) × Int × Int) :=
  if (decide (a1 < 0)) = true then (r04_Read_j1 a0 a1 true) else (r04_Read_j1 a0 a1 (decide ((a0.length : Int) < a1)))
end Go.Proofs.YthokgnonmcgkcaaDoor.M
namespace Go.Proofs.YthokgnonmcgkcaaDoor.M
open Go Go.RowKit Go.Proofs.YthokgnonmcgkcaaDoor.E
set_option linter.unusedVariables false
set_option linter.unusedSimpArgs false
set_option maxRecDepth 100000 in
set_option maxHeartbeats 4000000 in
theorem F_r04_Sum {r : World} {L : List HP} {w : World} (a0 : (List Int)) (A0 : Option Addr) (n0 : Nat) (c0 : Nat) {y : (Int)} (hF : r04_Sum a0 = some y) (ha0 : RdL L (kI .u8) A0 n0 c0 a0) (hS : SH r (L) w) :
    Ret Tryd.prog 51 #[.slice A0 n0 c0] w fun v w' => v = .int .u32 y ∧ SH r (L) w' := by
  refine enter Tryd.func51 rfl Tryd.ntmps51 [(0, .slice A0 n0 c0)] rfl (by simp) ?_
  intro ac hA Qf hQ hQn
  unfold r04_Sum at hF
  refine wp_seq_k fun K101 hK101 => ?_
  refine wp_reg ?_
  refine x_assign hA (fun ac hA => ?_) rfl rfl rfl rfl rfl
  refine wpList_nil ?_
  refine hK101 _ _ ?_
  refine wp_seq_k fun K102 hK102 => ?_
  refine wp_reg ?_
  refine x_assign hA (fun ac hA => ?_) rfl rfl rfl rfl rfl
  refine wpList_nil ?_
  refine hK102 _ _ ?_
  refine wp_seq_k fun K103 hK103 => ?_
  refine wp_seq_k fun K13626 hK13626 => ?_
  refine wp_reg ?_
  refine x_assign hA (fun ac hA => ?_) rfl rfl rfl rfl rfl
  refine wpList_nil ?_
  refine hK13626 _ _ ?_
  refine wp_block_k fun Kx13627 hKx13627 => ?_
  have hb1 : ∀ (x20428 : Int), r04_Sum_b1 x20428 = some y → ∀ (ac : Act) (w : World), FR 35 [] ac [(3, .int .u32 x20428)] → SH r (L) w → Kx13627 ac w := by
    intro x20428 hF ac w hA hS
    unfold r04_Sum_b1 at hF
    refine hKx13627 _ _ ?_
    refine hK103 _ _ ?_
    refine wp_seq_k fun K20429 hK20429 => ?_
    refine wp_reg ?_
    refine x_move hA (fun ac hA => ?_) rfl rfl rfl rfl rfl
    obtain ⟨x20430, h20431, hF⟩ := ltt_ hF
    refine x_val (v := .int .u32 x20430) hA (rv_i h20431 (r_xor rfl (hA.ev rfl) (hA.ev rfl))) (fun ac hA => ?_) rfl rfl rfl
    refine x_assign hA (fun ac hA => ?_) rfl rfl rfl rfl rfl
    refine wpList_nil ?_
    refine hK20429 _ _ ?_
    refine wp_ret ?_
    cases hF
    refine hQ _ _ ?_
    refine lv Tryd.results51 hA rfl ?_
    exact ⟨rfl, hS⟩
  obtain ⟨t24966, hl24966, hF⟩ := bnd hF
  have hx24966_0 : ∀ (x24966 : Int), (x24966) = t24966 → ∀ (ac : Act) (w : World), FR 35 [] ac [(3, .int .u32 x24966)] → SH r (L) w → Kx13627 ac w := by
    intro x24966 ht ac w hA hS
    subst ht
    replace hF : r04_Sum_x1_0 x24966 = some y := hF
    unfold r04_Sum_x1_0 at hF
    exact hb1 x24966 hF ac w (hA.sub _ rfl) hS
  refine wp_loop_fn hl24966 (fun s ac w => FR 35 [] ac [(0, .slice A0 n0 c0), (3, .int .u32 s.1), (4, .int .i64 s.2)] ∧ SH r (L) w) ⟨hA.sub _ rfl, hS⟩ ?_
  intro N24966 s24966 o24966 hF N24966_ T24966_ ac w hLab
  obtain ⟨x22698, x22699⟩ := s24966
  replace hF : r04_Sum_l1 a0 x22698 x22699 = some o24966 := hF
  unfold r04_Sum_l1 at hF
  try dsimp only at hLab
  obtain ⟨hA, hS⟩ := hLab
  refine wp_seq_k fun K24968 hK24968 => ?_
  refine wp_seq_k fun K24969 hK24969 => ?_
  refine wp_reg ?_
  refine x_move hA (fun ac hA => ?_) rfl rfl rfl rfl rfl
  refine x_move hA (fun ac hA => ?_) rfl rfl rfl rfl rfl
  refine x_len Tryd.underlying22 (hS.rdl 0 ha0 rfl).2.1 hA (fun ac hA => ?_) rfl rfl rfl rfl rfl
  refine x_val hA (r_ltI rfl (hA.ev rfl) (hA.ev rfl)) (fun ac hA => ?_) rfl rfl rfl
  refine wpList_nil ?_
  refine hK24969 _ _ ?_
  refine c_if hA rfl (fun hb24970 => ?_) fun hb24970 => ?_
  · replace hF := ift hb24970 hF
    refine wp_skip ?_
    refine hK24968 _ _ ?_
    refine wp_seq_k fun K24971 hK24971 => ?_
    refine wp_block_k fun Kx26101 hKx26101 => ?_
    refine wp_seq_k fun K26666 hK26666 => ?_
    refine wp_reg ?_
    refine x_assign hA (fun ac hA => ?_) rfl rfl rfl rfl rfl
    refine wpList_nil ?_
    refine hK26666 _ _ ?_
    refine wp_block_k fun Kx26667 hKx26667 => ?_
    have hb2 : ∀ (x26948 : Int), r04_Sum_b2 x22699 x26948 = some o24966 → ∀ (ac : Act) (w : World), FR 35 [] ac [(0, .slice A0 n0 c0), (3, .int .u32 x26948), (4, .int .i64 x22699)] → SH r (L) w → Kx26667 ac w := by
      intro x26948 hF ac w hA hS
      unfold r04_Sum_b2 at hF
      refine hKx26667 _ _ ?_
      refine hKx26101 _ _ ?_
      refine hK24971 _ _ ?_
      refine wp_reg ?_
      refine x_move hA (fun ac hA => ?_) rfl rfl rfl rfl rfl
      obtain ⟨x26949, h26950, hF⟩ := ltt_ hF
      refine x_val (v := .int .i64 x26949) hA (rv_i h26950 (r_add rfl (hA.ev rfl) (hA.ev rfl))) (fun ac hA => ?_) rfl rfl rfl
      refine x_assign hA (fun ac hA => ?_) rfl rfl rfl rfl rfl
      refine wpList_nil ?_
      cases hF
      exact ⟨_, N24966_ _ rfl, hA.sub _ rfl, hS⟩
    obtain ⟨t27137, hl27137, hF⟩ := bnd hF
    have hx27137_2 : ∀ (x27137 : Int), (x27137) = t27137 → ∀ (ac : Act) (w : World), FR 35 [] ac [(0, .slice A0 n0 c0), (3, .int .u32 x27137), (4, .int .i64 x22699)] → SH r (L) w → Kx26667 ac w := by
      intro x27137 ht ac w hA hS
      subst ht
      replace hF : r04_Sum_x2_2 x22699 x27137 = some o24966 := hF
      unfold r04_Sum_x2_2 at hF
      exact hb2 x27137 hF ac w (hA.sub _ rfl) hS
    refine wp_loop_fn hl27137 (fun s ac w => FR 35 [] ac [(0, .slice A0 n0 c0), (3, .int .u32 s.1), (4, .int .i64 x22699), (5, .int .i64 s.2)] ∧ SH r (L) w) ⟨hA.sub _ rfl, hS⟩ ?_
    intro N27137 s27137 o27137 hF N27137_ T27137_ ac w hLab
    obtain ⟨x27041, x27042⟩ := s27137
    replace hF : r04_Sum_l2 a0 x22699 x27041 x27042 = some o27137 := hF
    unfold r04_Sum_l2 at hF
    try dsimp only at hLab
    obtain ⟨hA, hS⟩ := hLab
    refine wp_seq_k fun K27139 hK27139 => ?_
    refine wp_seq_k fun K27140 hK27140 => ?_
    refine wp_reg ?_
    refine x_move hA (fun ac hA => ?_) rfl rfl rfl rfl rfl
    refine x_val hA (r_ltI rfl (hA.ev rfl) (hA.ev rfl)) (fun ac hA => ?_) rfl rfl rfl
    refine wpList_nil ?_
    refine hK27140 _ _ ?_
    refine c_if hA rfl (fun hb27141 => ?_) fun hb27141 => ?_
    · replace hF := ift hb27141 hF
      refine wp_skip ?_
      refine hK27139 _ _ ?_
      refine wp_seq_k fun K27142 hK27142 => ?_
      refine wp_block_k fun Kx27186 hKx27186 => ?_
      have hb3 : ∀ (x27207 : Int), r04_Sum_b3 x27042 x27207 = some o27137 → ∀ (ac : Act) (w : World), FR 35 [] ac [(0, .slice A0 n0 c0), (3, .int .u32 x27207), (4, .int .i64 x22699), (5, .int .i64 x27042)] → SH r (L) w → Kx27186 ac w := by
        intro x27207 hF ac w hA hS
        unfold r04_Sum_b3 at hF
        refine hKx27186 _ _ ?_
        refine hK27142 _ _ ?_
        refine wp_reg ?_
        refine x_move hA (fun ac hA => ?_) rfl rfl rfl rfl rfl
        obtain ⟨x27208, h27209, hF⟩ := ltt_ hF
        refine x_val (v := .int .i64 x27208) hA (rv_i h27209 (r_add rfl (hA.ev rfl) (hA.ev rfl))) (fun ac hA => ?_) rfl rfl rfl
        refine x_assign hA (fun ac hA => ?_) rfl rfl rfl rfl rfl
        refine wpList_nil ?_
        cases hF
        exact ⟨_, N27137_ _ rfl, hA.sub _ rfl, hS⟩
      refine wp_seq_k fun K27210 hK27210 => ?_
      refine wp_reg ?_
      refine x_move hA (fun ac hA => ?_) rfl rfl rfl rfl rfl
      refine x_move hA (fun ac hA => ?_) rfl rfl rfl rfl rfl
      refine x_move hA (fun ac hA => ?_) rfl rfl rfl rfl rfl
      obtain ⟨x27211, h27212, hF⟩ := bnd hF
      refine x_ia Tryd.underlying22 sz5 (hS.rdl 0 ha0 rfl) h27212 hA (fun ac hA => ?_) rfl rfl rfl rfl rfl rfl
      obtain ⟨cs, hV, hc27213⟩ := el (hS.rdl 0 ha0 rfl) h27212
      obtain rfl := hV
      refine x_ld Tryd.underlying5 (hc27213 0 _ rfl) hA (fun ac hA => ?_) rfl rfl rfl rfl rfl rfl
      refine x_move hA (fun ac hA => ?_) rfl rfl rfl rfl rfl
      obtain ⟨h27214, hF⟩ := chk_some hF
      obtain ⟨x27215, h27216, hF⟩ := ltt_ hF
      refine x_val (v := .int .u8 x27215) hA (rv_i h27216 (r_shr rfl (hA.ev rfl) (hA.ev rfl) h27214)) (fun ac hA => ?_) rfl rfl rfl
      obtain ⟨x27217, h27218, hF⟩ := ltt_ hF
      refine x_val (v := .int .u32 x27217) hA (rv_i h27218 (r_convI Tryd.underlying5 Tryd.underlying79 rfl (hA.ev rfl))) (fun ac hA => ?_) rfl rfl rfl
      obtain ⟨x27219, h27220, hF⟩ := ltt_ hF
      refine x_val (v := .int .u32 x27219) hA (rv_i h27220 (r_xor rfl (hA.ev rfl) (hA.ev rfl))) (fun ac hA => ?_) rfl rfl rfl
      obtain ⟨x27221, h27222, hF⟩ := ltt_ hF
      refine x_val (v := .int .u32 x27221) hA (rv_i h27222 (r_rem rfl (hA.ev rfl) (hA.ev rfl) (by decide))) (fun ac hA => ?_) rfl rfl rfl
      refine x_assign hA (fun ac hA => ?_) rfl rfl rfl rfl rfl
      refine wpList_nil ?_
      refine hK27210 _ _ ?_
      refine wp_seq_k fun K27223 hK27223 => ?_
      refine wp_reg ?_
      refine x_move hA (fun ac hA => ?_) rfl rfl rfl rfl rfl
      obtain ⟨x27224, h27225, hF⟩ := ltt_ hF
      refine x_val (v := .int .u32 x27224) hA (rv_i h27225 (r_quo rfl (hA.ev rfl) (hA.ev rfl) (by decide))) (fun ac hA => ?_) rfl rfl rfl
      refine x_assign hA (fun ac hA => ?_) rfl rfl rfl rfl rfl
      refine wpList_nil ?_
      refine hK27223 _ _ ?_
      refine wp_seq_k fun K27226 hK27226 => ?_
      refine wp_reg ?_
      refine x_move hA (fun ac hA => ?_) rfl rfl rfl rfl rfl
      refine x_val hA (r_eqI rfl (hA.ev rfl) (hA.ev rfl)) (fun ac hA => ?_) rfl rfl rfl
      refine wpList_nil ?_
      refine hK27226 _ _ ?_
      refine c_if hA rfl (fun hb27227 => ?_) fun hb27227 => ?_
      · replace hF := ift hb27227 hF
        refine wp_reg ?_
        refine x_move hA (fun ac hA => ?_) rfl rfl rfl rfl rfl
        obtain ⟨x27228, h27229, hF⟩ := ltt_ hF
        refine x_val (v := .int .u32 x27228) hA (rv_i h27229 (r_xor rfl (hA.ev rfl) (hA.ev rfl))) (fun ac hA => ?_) rfl rfl rfl
        refine x_assign hA (fun ac hA => ?_) rfl rfl rfl rfl rfl
        refine wpList_nil ?_
        exact hb3 x27228 hF ac w (hA.sub _ rfl) hS
      replace hF := iff' hb27227 hF
      refine wp_skip ?_
      exact hb3 x27224 hF ac w (hA.sub _ rfl) hS
    replace hF := iff' hb27141 hF
    refine wp_exit ?_
    cases hF
    exact hx27137_2 x27041 (T27137_ _ rfl) ac w (hA.sub _ rfl) hS
  replace hF := iff' hb24970 hF
  refine wp_exit ?_
  cases hF
  exact hx24966_0 x22698 (T24966_ _ rfl) ac w (hA.sub _ rfl) hS
set_option maxRecDepth 100000 in
set_option maxHeartbeats 4000000 in
theorem F_r04_four {r : World} {L : List HP} {w : World} (a0 : Int) {y : ((List Int))} (hF : r04_four a0 = some y) (hS : SH r (L) w) :
    Ret Tryd.prog 50 #[.int .u32 a0] w fun v w' => ∃ (B0 : Option Addr) (m0 : Nat) (d0 : Nat), v = .slice B0 m0 d0 ∧ SH r (own (kI .u8) 5 B0 m0 d0 y :: L) w' := by
  refine enter Tryd.func50 rfl Tryd.ntmps50 [(0, .int .u32 a0)] rfl (by simp) ?_
  intro ac hA Qf hQ hQn
  unfold r04_four at hF
  refine wp_seq_k fun K101 hK101 => ?_
  refine wp_reg ?_
  refine x_assign hA (fun ac hA => ?_) rfl rfl rfl rfl rfl
  refine wpList_nil ?_
  refine hK101 _ _ ?_
  refine wp_seq_k fun K102 hK102 => ?_
  refine wp_reg ?_
  refine x_move hA (fun ac hA => ?_) rfl rfl rfl rfl rfl
  obtain ⟨x103, h104, hF⟩ := ltt_ hF
  refine x_val (v := .int .u8 x103) hA (rv_i h104 (r_convI Tryd.underlying79 Tryd.underlying5 rfl (hA.ev rfl))) (fun ac hA => ?_) rfl rfl rfl
  refine x_move hA (fun ac hA => ?_) rfl rfl rfl rfl rfl
  obtain ⟨x105, h106, hF⟩ := ltt_ hF
  refine x_val (v := .int .u32 x105) hA (rv_i h106 (r_quo rfl (hA.ev rfl) (hA.ev rfl) (by decide))) (fun ac hA => ?_) rfl rfl rfl
  obtain ⟨x107, h108, hF⟩ := ltt_ hF
  refine x_val (v := .int .u8 x107) hA (rv_i h108 (r_convI Tryd.underlying79 Tryd.underlying5 rfl (hA.ev rfl))) (fun ac hA => ?_) rfl rfl rfl
  refine x_move hA (fun ac hA => ?_) rfl rfl rfl rfl rfl
  obtain ⟨x109, h110, hF⟩ := ltt_ hF
  refine x_val (v := .int .u32 x109) hA (rv_i h110 (r_quo rfl (hA.ev rfl) (hA.ev rfl) (by decide))) (fun ac hA => ?_) rfl rfl rfl
  obtain ⟨x111, h112, hF⟩ := ltt_ hF
  refine x_val (v := .int .u8 x111) hA (rv_i h112 (r_convI Tryd.underlying79 Tryd.underlying5 rfl (hA.ev rfl))) (fun ac hA => ?_) rfl rfl rfl
  refine x_move hA (fun ac hA => ?_) rfl rfl rfl rfl rfl
  obtain ⟨x113, h114, hF⟩ := ltt_ hF
  refine x_val (v := .int .u32 x113) hA (rv_i h114 (r_quo rfl (hA.ev rfl) (hA.ev rfl) (by decide))) (fun ac hA => ?_) rfl rfl rfl
  obtain ⟨x115, h116, hF⟩ := ltt_ hF
  refine x_val (v := .int .u8 x115) hA (rv_i h116 (r_convI Tryd.underlying79 Tryd.underlying5 rfl (hA.ev rfl))) (fun ac hA => ?_) rfl rfl rfl
  refine x_bsl (d := (kI .u8)) (e := 5) (ps := #[(0, .int .u8 x103), (1, .int .u8 x107), (2, .int .u8 x111), (3, .int .u8 x115)]) (cells := [.int .u8 x103, .int .u8 x107, .int .u8 x111, .int .u8 x115]) (xs := [x103, x107, x111, x115]) (fun w => by kernel_rfl) rfl ⟨[.int .u8 x103], _, rfl, rfl, ⟨[.int .u8 x107], _, rfl, rfl, ⟨[.int .u8 x111], _, rfl, rfl, ⟨[.int .u8 x115], _, rfl, rfl, rfl⟩⟩⟩⟩ hA hS (fun g117 ac w hS hA => ?_) rfl rfl rfl rfl rfl rfl
  refine x_assign hA (fun ac hA => ?_) rfl rfl rfl rfl rfl
  refine wpList_nil ?_
  refine hK102 _ _ ?_
  refine wp_ret ?_
  cases hF
  refine hQ _ _ ?_
  refine lv Tryd.results50 hA rfl ?_
  exact ⟨some ⟨g117, 0, none⟩, 4, 4, rfl, hS⟩
set_option maxRecDepth 100000 in
set_option maxHeartbeats 4000000 in
theorem F_r04_Read {r : World} {L : List HP} {w : World} {Z : Nat → Prop} {wz : World} (a0 : (List Int)) (a1 : Int) (A0 : Option Addr) (n0 : Nat) (c0 : Nat) {y : (Int × (List Int) × Int × Int)} (hF : r04_Read a0 a1 = some y) (qz : Nat) (hZ : L[qz]? = some (zone Z wz)) (ha0 : Imm Z wz (kI .u8) A0 n0 c0 a0) (hS : SH r (L) w) :
    Ret Tryd.prog 21 #[.slice A0 n0 c0, .int .i64 a1] w fun v w' => ∃ (B1 : Option Addr) (m1 : Nat) (d1 : Nat), v = .tuple #[(.int .u8 y.1), (.slice B1 m1 d1), (.int .i64 y.2.2.1), (.int .i64 y.2.2.2)] ∧ Imm Z wz (kI .u8) B1 m1 d1 y.2.1 ∧ SH r (L) w' := by
  refine enter Tryd.func21 rfl Tryd.ntmps21 [(0, .slice A0 n0 c0), (1, .int .i64 a1)] rfl (by simp) ?_
  intro ac hA Qf hQ hQn
  unfold r04_Read at hF
  refine wp_seq_k fun K101 hK101 => ?_
  refine wp_reg ?_
  refine x_assign hA (fun ac hA => ?_) rfl rfl rfl rfl rfl
  refine x_assign hA (fun ac hA => ?_) rfl rfl rfl rfl rfl
  refine x_assign hA (fun ac hA => ?_) rfl rfl rfl rfl rfl
  refine x_assign hA (fun ac hA => ?_) rfl rfl rfl rfl rfl
  refine wpList_nil ?_
  refine hK101 _ _ ?_
  refine wp_seq_k fun K102 hK102 => ?_
  refine wp_seq_k fun K103 hK103 => ?_
  have hj1 : ∀ (b105 : Bool), r04_Read_j1 a0 a1 b105 = some y → ∀ (ac : Act) (w : World), FR 72 [] ac [(0, .slice A0 n0 c0), (1, .int .i64 a1), (18, .bool b105)] → SH r (L) w → K103 ac w := by
    intro b105 hF ac w hA hS
    unfold r04_Read_j1 at hF
    refine hK103 _ _ ?_
    refine c_if hA rfl (fun hb106 => ?_) fun hb106 => ?_
    · replace hF := ift hb106 hF
      refine wp_seq_k fun K107 hK107 => ?_
      refine wp_reg ?_
      refine x_assign hA (fun ac hA => ?_) rfl rfl rfl rfl rfl
      refine x_assign hA (fun ac hA => ?_) rfl rfl rfl rfl rfl
      refine x_assign hA (fun ac hA => ?_) rfl rfl rfl rfl rfl
      refine x_assign hA (fun ac hA => ?_) rfl rfl rfl rfl rfl
      refine wpList_nil ?_
      refine hK107 _ _ ?_
      refine wp_ret ?_
      cases hF
      refine hQ _ _ ?_
      refine lv4 Tryd.results21 hA rfl rfl rfl rfl ?_
      exact ⟨none, 0, 0, rfl, Imm.nil, hS⟩
    replace hF := iff' hb106 hF
    refine wp_skip ?_
    refine hK102 _ _ ?_
    refine wp_seq_k fun K108 hK108 => ?_
    refine wp_reg ?_
    refine x_move hA (fun ac hA => ?_) rfl rfl rfl rfl rfl
    refine x_move hA (fun ac hA => ?_) rfl rfl rfl rfl rfl
    obtain ⟨l109, h110, hF⟩ := bnd hF
    obtain ⟨A113, n114, c115, e112, h111⟩ := imm_lc ha0 h110
    refine x_val (v := .slice A113 n114 c115) hA (rv_e e112 (r_slice_l Tryd.underlying22 sz5 rfl (hA.ev rfl) (hA.ev rfl) (cutq (hS.rdl 0 (ha0.rdl qz hZ) rfl) h110).1 (cutq (hS.rdl 0 (ha0.rdl qz hZ) rfl) h110).2.2.2.2.2)) (fun ac hA => ?_) rfl rfl rfl
    refine x_assign hA (fun ac hA => ?_) rfl rfl rfl rfl rfl
    refine wpList_nil ?_
    refine hK108 _ _ ?_
    refine wp_seq_k fun K116 hK116 => ?_
    refine wp_seq_k fun K117 hK117 => ?_
    refine wp_reg ?_
    refine x_move hA (fun ac hA => ?_) rfl rfl rfl rfl rfl
    refine x_len Tryd.underlying22 (hS.rdl 0 (h111.rdl qz hZ) rfl).2.1 hA (fun ac hA => ?_) rfl rfl rfl rfl rfl
    refine x_val hA (r_ltI rfl (hA.ev rfl) (hA.ev rfl)) (fun ac hA => ?_) rfl rfl rfl
    refine wpList_nil ?_
    refine hK117 _ _ ?_
    refine c_if hA rfl (fun hb118 => ?_) fun hb118 => ?_
    · replace hF := ift hb118 hF
      refine wp_seq_k fun K119 hK119 => ?_
      refine wp_reg ?_
      refine x_assign hA (fun ac hA => ?_) rfl rfl rfl rfl rfl
      refine x_assign hA (fun ac hA => ?_) rfl rfl rfl rfl rfl
      refine x_assign hA (fun ac hA => ?_) rfl rfl rfl rfl rfl
      refine x_assign hA (fun ac hA => ?_) rfl rfl rfl rfl rfl
      refine wpList_nil ?_
      refine hK119 _ _ ?_
      refine wp_ret ?_
      cases hF
      refine hQ _ _ ?_
      refine lv4 Tryd.results21 hA rfl rfl rfl rfl ?_
      exact ⟨none, 0, 0, rfl, Imm.nil, hS⟩
    replace hF := iff' hb118 hF
    refine wp_skip ?_
    refine hK116 _ _ ?_
    refine wp_seq_k fun K120 hK120 => ?_
    refine wp_reg ?_
    refine x_assign hA (fun ac hA => ?_) rfl rfl rfl rfl rfl
    refine wpList_nil ?_
    refine hK120 _ _ ?_
    refine wp_seq_k fun K121 hK121 => ?_
    refine wp_seq_k fun K238 hK238 => ?_
    refine wp_reg ?_
    refine x_assign hA (fun ac hA => ?_) rfl rfl rfl rfl rfl
    refine wpList_nil ?_
    refine hK238 _ _ ?_
    refine wp_block_k fun Kx239 hKx239 => ?_
    have hb1 : ∀ (x296 : Int), r04_Read_b1 a1 l109 x296 = some y → ∀ (ac : Act) (w : World), FR 72 [] ac [(1, .int .i64 a1), (8, .slice A113 n114 c115), (9, .int .i64 x296)] → SH r (L) w → Kx239 ac w := by
      intro x296 hF ac w hA hS
      unfold r04_Read_b1 at hF
      refine hKx239 _ _ ?_
      refine hK121 _ _ ?_
      refine wp_seq_k fun K297 hK297 => ?_
      refine wp_seq_k fun K298 hK298 => ?_
      have hj2 : ∀ (b302 : Bool), r04_Read_j2 a1 l109 x296 b302 = some y → ∀ (ac : Act) (w : World), FR 72 [] ac [(1, .int .i64 a1), (8, .slice A113 n114 c115), (9, .int .i64 x296), (45, .bool b302)] → SH r (L) w → K298 ac w := by
        intro b302 hF ac w hA hS
        unfold r04_Read_j2 at hF
        refine hK298 _ _ ?_
        refine c_if hA rfl (fun hb303 => ?_) fun hb303 => ?_
        · replace hF := ift hb303 hF
          refine wp_seq_k fun K304 hK304 => ?_
          refine wp_reg ?_
          refine x_assign hA (fun ac hA => ?_) rfl rfl rfl rfl rfl
          refine x_assign hA (fun ac hA => ?_) rfl rfl rfl rfl rfl
          refine x_assign hA (fun ac hA => ?_) rfl rfl rfl rfl rfl
          refine x_assign hA (fun ac hA => ?_) rfl rfl rfl rfl rfl
          refine wpList_nil ?_
          refine hK304 _ _ ?_
          refine wp_ret ?_
          cases hF
          refine hQ _ _ ?_
          refine lv4 Tryd.results21 hA rfl rfl rfl rfl ?_
          exact ⟨none, 0, 0, rfl, Imm.nil, hS⟩
        replace hF := iff' hb303 hF
        refine wp_skip ?_
        refine hK297 _ _ ?_
        refine wp_seq_k fun K305 hK305 => ?_
        refine wp_seq_k fun K306 hK306 => ?_
        refine wp_draw [0, 0, 2, 7, 15, 31, 63, 0, 0, 256, 0, 1024, 3968, 8064, 16383] [4, 5] rfl hA hS (by kernel_rfl) (by kernel_rfl) (by kernel_rfl) (by kernel_rfl) fun w hS => ?_
        obtain ⟨x307, h308, hF⟩ := ltt_ hF
        obtain ⟨l309, h310, hF⟩ := bnd hF
        obtain ⟨A313, n314, c315, e312, h311⟩ := imm_hc h111 h310
        obtain ⟨x316, h317, hF⟩ := ltt_ hF
        obtain ⟨l318, h319, hF⟩ := bnd hF
        obtain ⟨A322, n323, c324, e321, h320⟩ := imm_lhc h111 h319
        refine ⟨[(0, .slice A113 n114 c115), (1, .int .i64 x296), (2, .int .i64 x307), (3, .slice A313 n314 c315), (7, .slice A113 n114 c115), (8, .int .i64 x296), (9, .int .i64 x307), (10, .int .i64 x296), (11, .int .i64 x316), (12, .slice A322 n323 c324), (13, str (bts l318))], ?_⟩
        refine dEff [0, 1, 2, 3, 7, 8, 9, 10, 11, 12, 13] [4] (by kernel_rfl) ⟨pu rfl rfl [(8, .slice A113 n114 c115)] (fun ac hA => y_move hA rfl rfl) rfl rfl, pu rfl rfl [(9, .int .i64 x296)] (fun ac hA => y_move hA rfl rfl) rfl rfl, pu rfl rfl [(47, .int .i64 x296)] (fun ac hA => (rv_i h308 (r_add rfl (hA.ev rfl) (hA.ev rfl)) : RunV _ _ _ _ (.int .i64 x307))) rfl rfl, pu rfl rfl [(46, .slice A113 n114 c115), (48, .int .i64 x307)] (fun ac hA => (rv_e e312 (r_slice_h Tryd.underlying22 sz5 rfl (hA.ev rfl) (hA.ev rfl) (cutq (hS.rdl 0 (h111.rdl qz hZ) rfl) h310).2.2.2.2.1 (cutq (hS.rdl 0 (h111.rdl qz hZ) rfl) h310).2.2.1) : RunV _ _ _ _ (.slice A313 n314 c315))) rfl rfl, pu rfl rfl [(8, .slice A113 n114 c115)] (fun ac hA => y_move hA rfl rfl) rfl rfl, pu rfl rfl [(9, .int .i64 x296)] (fun ac hA => y_move hA rfl rfl) rfl rfl, pu rfl rfl [(54, .int .i64 x296)] (fun ac hA => (rv_i h308 (r_add rfl (hA.ev rfl) (hA.ev rfl)) : RunV _ _ _ _ (.int .i64 x307))) rfl rfl, pu rfl rfl [(9, .int .i64 x296)] (fun ac hA => y_move hA rfl rfl) rfl rfl, pu rfl rfl [(56, .int .i64 x296)] (fun ac hA => (rv_i h317 (r_add rfl (hA.ev rfl) (hA.ev rfl)) : RunV _ _ _ _ (.int .i64 x316))) rfl rfl, pu rfl rfl [(53, .slice A113 n114 c115), (55, .int .i64 x307), (57, .int .i64 x316)] (fun ac hA => (rv_e e321 (r_slice_lh Tryd.underlying22 sz5 rfl (hA.ev rfl) (hA.ev rfl) (hA.ev rfl) (cutq (hS.rdl 0 (h111.rdl qz hZ) rfl) h319).1 (cutq (hS.rdl 0 (h111.rdl qz hZ) rfl) h319).2.1 (cutq (hS.rdl 0 (h111.rdl qz hZ) rfl) h319).2.2.1) : RunV _ _ _ _ (.slice A322 n323 c324))) rfl rfl, pu rfl rfl [(58, .slice A322 n323 c324)] (fun ac hA => y_b2s Tryd.underlying22 Tryd.underlying5 Tryd.underlying9 (hS.rdl 0 (h320.rdl qz hZ) rfl) hA rfl rfl) rfl rfl, trivial⟩ (by kernel_rfl) (by kernel_rfl) ⟨ef rfl [(49, .slice A313 n314 c315)] (fun ac hA K hK => ?_) rfl rfl, trivial⟩
        obtain ⟨y325, h326, hF⟩ := bnd hF
        refine z_call en51 hA (F_r04_Sum (L := L) l309 A313 n314 c315 h326 (RdL.sfx 0 rfl (h311.rdl qz hZ)) hS) (fun v w hR => ?_) rfl rfl
        obtain ⟨rfl, hS⟩ := hR
        refine hK _ [] _ rfl ?_
        refine dEff [7, 8, 9, 10, 11, 12, 13] [5] (by kernel_rfl) ⟨pu rfl rfl [(8, .slice A113 n114 c115)] (fun ac hA => y_move hA rfl rfl) rfl rfl, pu rfl rfl [(9, .int .i64 x296)] (fun ac hA => y_move hA rfl rfl) rfl rfl, pu rfl rfl [(54, .int .i64 x296)] (fun ac hA => (rv_i h308 (r_add rfl (hA.ev rfl) (hA.ev rfl)) : RunV _ _ _ _ (.int .i64 x307))) rfl rfl, pu rfl rfl [(9, .int .i64 x296)] (fun ac hA => y_move hA rfl rfl) rfl rfl, pu rfl rfl [(56, .int .i64 x296)] (fun ac hA => (rv_i h317 (r_add rfl (hA.ev rfl) (hA.ev rfl)) : RunV _ _ _ _ (.int .i64 x316))) rfl rfl, pu rfl rfl [(53, .slice A113 n114 c115), (55, .int .i64 x307), (57, .int .i64 x316)] (fun ac hA => (rv_e e321 (r_slice_lh Tryd.underlying22 sz5 rfl (hA.ev rfl) (hA.ev rfl) (hA.ev rfl) (cutq (hS.rdl 0 (h111.rdl qz hZ) rfl) h319).1 (cutq (hS.rdl 0 (h111.rdl qz hZ) rfl) h319).2.1 (cutq (hS.rdl 0 (h111.rdl qz hZ) rfl) h319).2.2.1) : RunV _ _ _ _ (.slice A322 n323 c324))) rfl rfl, pu rfl rfl [(58, .slice A322 n323 c324)] (fun ac hA => y_b2s Tryd.underlying22 Tryd.underlying5 Tryd.underlying9 (hS.rdl 0 (h320.rdl qz hZ) rfl) hA rfl rfl) rfl rfl, trivial⟩ (by kernel_rfl) (by kernel_rfl) ⟨ef rfl [(50, .int .u32 y325)] (fun ac hA K hK => ?_) rfl rfl, trivial⟩
        obtain ⟨y327, h328, hF⟩ := bnd hF
        refine z_call en50 hA (F_r04_four (L := L) y325 h328 hS) (fun v w hR => ?_) rfl rfl
        obtain ⟨B329, m330, d331, rfl, hS⟩ := hR
        refine hK _ [(6, str (bts y327)), (14, .bool (!((bts y327) == (bts l318))))] _ rfl ?_
        refine dEnd [6, 7, 8, 9, 10, 11, 12, 13, 14] (by kernel_rfl) ⟨pu rfl rfl [(51, .slice B329 m330 d331)] (fun ac hA => y_b2s Tryd.underlying22 Tryd.underlying5 Tryd.underlying9 (hS.rd 0 rfl) hA rfl rfl) rfl rfl, pu rfl rfl [(8, .slice A113 n114 c115)] (fun ac hA => y_move hA rfl rfl) rfl rfl, pu rfl rfl [(9, .int .i64 x296)] (fun ac hA => y_move hA rfl rfl) rfl rfl, pu rfl rfl [(54, .int .i64 x296)] (fun ac hA => (rv_i h308 (r_add rfl (hA.ev rfl) (hA.ev rfl)) : RunV _ _ _ _ (.int .i64 x307))) rfl rfl, pu rfl rfl [(9, .int .i64 x296)] (fun ac hA => y_move hA rfl rfl) rfl rfl, pu rfl rfl [(56, .int .i64 x296)] (fun ac hA => (rv_i h317 (r_add rfl (hA.ev rfl) (hA.ev rfl)) : RunV _ _ _ _ (.int .i64 x316))) rfl rfl, pu rfl rfl [(53, .slice A113 n114 c115), (55, .int .i64 x307), (57, .int .i64 x316)] (fun ac hA => (rv_e e321 (r_slice_lh Tryd.underlying22 sz5 rfl (hA.ev rfl) (hA.ev rfl) (hA.ev rfl) (cutq (hS.rdl 1 (h111.rdl qz hZ) rfl) h319).1 (cutq (hS.rdl 1 (h111.rdl qz hZ) rfl) h319).2.1 (cutq (hS.rdl 1 (h111.rdl qz hZ) rfl) h319).2.2.1) : RunV _ _ _ _ (.slice A322 n323 c324))) rfl rfl, pu rfl rfl [(58, .slice A322 n323 c324)] (fun ac hA => y_b2s Tryd.underlying22 Tryd.underlying5 Tryd.underlying9 (hS.rdl 1 (h320.rdl qz hZ) rfl) hA rfl rfl) rfl rfl, pu rfl rfl [(52, str (bts y327)), (59, str (bts l318))] (fun ac hA => r_neS rfl (hA.ev rfl) (hA.ev rfl)) rfl rfl, trivial⟩ ⟨by kernel_rfl, by kernel_rfl⟩ [(1, .int .i64 a1), (8, .slice A113 n114 c115), (9, .int .i64 x296), (60, .bool (!((bts y327) == (bts l318))))] rfl (fun ac hA => ?_)
        refine hK306 _ _ ?_
        refine c_if hA rfl (fun hb332 => ?_) fun hb332 => ?_
        · replace hF := ift hb332 hF
          refine wp_seq_k fun K333 hK333 => ?_
          refine wp_reg ?_
          refine x_assign hA (fun ac hA => ?_) rfl rfl rfl rfl rfl
          refine x_assign hA (fun ac hA => ?_) rfl rfl rfl rfl rfl
          refine x_assign hA (fun ac hA => ?_) rfl rfl rfl rfl rfl
          refine x_assign hA (fun ac hA => ?_) rfl rfl rfl rfl rfl
          refine wpList_nil ?_
          refine hK333 _ _ ?_
          refine wp_ret ?_
          replace hS := hS.drop 0
          cases hF
          refine hQ _ _ ?_
          refine lv4 Tryd.results21 hA rfl rfl rfl rfl ?_
          exact ⟨none, 0, 0, rfl, Imm.nil, hS⟩
        replace hF := iff' hb332 hF
        refine wp_skip ?_
        refine hK305 _ _ ?_
        refine wp_seq_k fun K334 hK334 => ?_
        refine wp_draw [0, 1, 3, 0, 0, 16, 56, 0, 128, 0, 896, 7, 2175, 8191, 16383] [] rfl hA hS (by kernel_rfl) (by kernel_rfl) (by kernel_rfl) (by kernel_rfl) fun w hS => ?_
        obtain ⟨x335, h336, hF⟩ := bnd hF
        obtain ⟨cs, hV, hc337⟩ := el (hS.rdl 1 (h111.rdl qz hZ) rfl) h336
        obtain rfl := hV
        obtain ⟨l338, h339, hF⟩ := bnd hF
        obtain ⟨A342, n343, c344, e341, h340⟩ := imm_lhc h111 h339
        obtain ⟨x345, h346, hF⟩ := ltt_ hF
        obtain ⟨x347, h348, hF⟩ := ltt_ hF
        refine ⟨[(0, .slice A113 n114 c115), (1, .pointer (some (ea A113 ((4 : Int).toNat * 1)))), (2, .int .u8 x335), (3, .slice A113 n114 c115), (4, .int .i64 x296), (5, .int .i64 x307), (6, .slice A342 n343 c344), (7, .int .i64 a1), (8, .int .i64 x345), (9, .int .i64 x296), (10, .int .i64 x347), (11, .int .u8 x335), (12, .slice A342 n343 c344), (13, .int .i64 x347), (14, .int .i64 0)], ?_⟩
        refine dEnd [0, 1, 2, 3, 4, 5, 6, 7, 8, 9, 10, 11, 12, 13, 14] (by kernel_rfl) ⟨pu rfl rfl [(8, .slice A113 n114 c115)] (fun ac hA => y_move hA rfl rfl) rfl rfl, pu rfl rfl [(61, .slice A113 n114 c115)] (fun ac hA => y_ia Tryd.underlying22 sz5 (hS.rdl 1 (h111.rdl qz hZ) rfl) h336 hA rfl rfl rfl) rfl rfl, pu rfl rfl [(62, .pointer (some (ea A113 ((4 : Int).toNat * 1))))] (fun ac hA => y_ld Tryd.underlying5 (hc337 0 _ rfl) hA rfl rfl rfl) rfl rfl, pu rfl rfl [(8, .slice A113 n114 c115)] (fun ac hA => y_move hA rfl rfl) rfl rfl, pu rfl rfl [(9, .int .i64 x296)] (fun ac hA => y_move hA rfl rfl) rfl rfl, pu rfl rfl [(65, .int .i64 x296)] (fun ac hA => (rv_i h308 (r_add rfl (hA.ev rfl) (hA.ev rfl)) : RunV _ _ _ _ (.int .i64 x307))) rfl rfl, pu rfl rfl [(64, .slice A113 n114 c115), (66, .int .i64 x307)] (fun ac hA => (rv_e e341 (r_slice_lh Tryd.underlying22 sz5 rfl (hA.ev rfl) (hA.ev rfl) (hA.ev rfl) (cutq (hS.rdl 1 (h111.rdl qz hZ) rfl) h339).1 (cutq (hS.rdl 1 (h111.rdl qz hZ) rfl) h339).2.1 (cutq (hS.rdl 1 (h111.rdl qz hZ) rfl) h339).2.2.1) : RunV _ _ _ _ (.slice A342 n343 c344))) rfl rfl, pu rfl rfl [(1, .int .i64 a1)] (fun ac hA => y_move hA rfl rfl) rfl rfl, pu rfl rfl [(68, .int .i64 a1)] (fun ac hA => (rv_i h346 (r_add rfl (hA.ev rfl) (hA.ev rfl)) : RunV _ _ _ _ (.int .i64 x345))) rfl rfl, pu rfl rfl [(9, .int .i64 x296)] (fun ac hA => y_move hA rfl rfl) rfl rfl, pu rfl rfl [(69, .int .i64 x345), (70, .int .i64 x296)] (fun ac hA => (rv_i h348 (r_add rfl (hA.ev rfl) (hA.ev rfl)) : RunV _ _ _ _ (.int .i64 x347))) rfl rfl, pu rfl rfl [(63, .int .u8 x335)] (fun ac hA => y_assign hA rfl rfl) rfl rfl, pu rfl rfl [(67, .slice A342 n343 c344)] (fun ac hA => y_assign hA rfl rfl) rfl rfl, pu rfl rfl [(71, .int .i64 x347)] (fun ac hA => y_assign hA rfl rfl) rfl rfl, pu rfl rfl [] (fun ac hA => y_assign hA rfl rfl) rfl rfl, trivial⟩ ⟨by kernel_rfl, by kernel_rfl⟩ [(4, .int .u8 x335), (5, .slice A342 n343 c344), (6, .int .i64 x347), (7, .int .i64 0)] rfl (fun ac hA => ?_)
        refine hK334 _ _ ?_
        refine wp_ret ?_
        replace hS := hS.drop 0
        cases hF
        refine hQ _ _ ?_
        refine lv4 Tryd.results21 hA rfl rfl rfl rfl ?_
        exact ⟨A342, n343, c344, rfl, h340, hS⟩
      refine wp_reg ?_
      refine x_move hA (fun ac hA => ?_) rfl rfl rfl rfl rfl
      refine x_val hA (r_gtI rfl (hA.ev rfl) (hA.ev rfl)) (fun ac hA => ?_) rfl rfl rfl
      refine x_move hA (fun ac hA => ?_) rfl rfl rfl rfl rfl
      refine bcase (b := decide (1048576 < x296)) (fun hb349 => ?_) fun hb349 => ?_
      · replace hF := ift hb349 hF
        refine x_off hb349 hA (fun ac hA => ?_) rfl rfl rfl rfl rfl
        refine x_off hb349 hA (fun ac hA => ?_) rfl rfl rfl rfl rfl
        refine x_off hb349 hA (fun ac hA => ?_) rfl rfl rfl rfl rfl
        refine x_off hb349 hA (fun ac hA => ?_) rfl rfl rfl rfl rfl
        refine x_off hb349 hA (fun ac hA => ?_) rfl rfl rfl rfl rfl
        refine x_pickt hb349 hA (fun ac hA => ?_) rfl rfl rfl rfl rfl rfl
        refine wpList_nil ?_
        exact hj2 true hF ac w (hA.sub _ rfl) hS
      replace hF := iff' hb349 hF
      refine x_on hb349 hA ?_ rfl rfl rfl
      refine x_move hA (fun ac hA => ?_) rfl rfl rfl rfl rfl
      refine x_on hb349 hA ?_ rfl rfl rfl
      refine x_move hA (fun ac hA => ?_) rfl rfl rfl rfl rfl
      refine x_on hb349 hA ?_ rfl rfl rfl
      refine x_len Tryd.underlying22 (hS.rdl 0 (h111.rdl qz hZ) rfl).2.1 hA (fun ac hA => ?_) rfl rfl rfl rfl rfl
      refine x_on hb349 hA ?_ rfl rfl rfl
      obtain ⟨x350, h351, hF⟩ := ltt_ hF
      refine x_val (v := .int .i64 x350) hA (rv_i h351 (r_sub rfl (hA.ev rfl) (hA.ev rfl))) (fun ac hA => ?_) rfl rfl rfl
      refine x_on hb349 hA ?_ rfl rfl rfl
      refine x_val hA (r_gtI rfl (hA.ev rfl) (hA.ev rfl)) (fun ac hA => ?_) rfl rfl rfl
      refine x_pickf hb349 hA (fun ac hA => ?_) rfl rfl rfl rfl rfl rfl
      refine wpList_nil ?_
      exact hj2 (decide (x350 < x296)) hF ac w (hA.sub _ rfl) hS
    obtain ⟨t390, hl390, hF⟩ := bnd hF
    have hx390_0 : ∀ (x390 : Int), (x390) = t390 → ∀ (ac : Act) (w : World), FR 72 [] ac [(1, .int .i64 a1), (8, .slice A113 n114 c115), (9, .int .i64 x390)] → SH r (L) w → Kx239 ac w := by
      intro x390 ht ac w hA hS
      subst ht
      replace hF : r04_Read_x1_0 a1 l109 x390 = some y := hF
      unfold r04_Read_x1_0 at hF
      exact hb1 x390 hF ac w (hA.sub _ rfl) hS
    refine wp_loop_fn hl390 (fun s ac w => FR 72 [] ac [(1, .int .i64 a1), (8, .slice A113 n114 c115), (9, .int .i64 s.1), (10, .int .i64 s.2)] ∧ SH r (L) w) ⟨hA.sub _ rfl, hS⟩ ?_
    intro N390 s390 o390 hF N390_ T390_ ac w hLab
    obtain ⟨x370, x371⟩ := s390
    replace hF : r04_Read_l1 l109 x370 x371 = some o390 := hF
    unfold r04_Read_l1 at hF
    try dsimp only at hLab
    obtain ⟨hA, hS⟩ := hLab
    refine wp_seq_k fun K392 hK392 => ?_
    refine wp_seq_k fun K393 hK393 => ?_
    refine wp_reg ?_
    refine x_move hA (fun ac hA => ?_) rfl rfl rfl rfl rfl
    refine x_val hA (r_geI rfl (hA.ev rfl) (hA.ev rfl)) (fun ac hA => ?_) rfl rfl rfl
    refine wpList_nil ?_
    refine hK393 _ _ ?_
    refine c_if hA rfl (fun hb394 => ?_) fun hb394 => ?_
    · replace hF := ift hb394 hF
      refine wp_skip ?_
      refine hK392 _ _ ?_
      refine wp_seq_k fun K395 hK395 => ?_
      refine wp_block_k fun Kx396 hKx396 => ?_
      refine wp_reg ?_
      refine x_move hA (fun ac hA => ?_) rfl rfl rfl rfl rfl
      obtain ⟨x397, h398, hF⟩ := ltt_ hF
      refine x_val (v := .int .i64 x397) hA (rv_i h398 (r_mul rfl (hA.ev rfl) (hA.ev rfl))) (fun ac hA => ?_) rfl rfl rfl
      refine x_move hA (fun ac hA => ?_) rfl rfl rfl rfl rfl
      refine x_move hA (fun ac hA => ?_) rfl rfl rfl rfl rfl
      obtain ⟨x399, h400, hF⟩ := bnd hF
      refine x_ia Tryd.underlying22 sz5 (hS.rdl 0 (h111.rdl qz hZ) rfl) h400 hA (fun ac hA => ?_) rfl rfl rfl rfl rfl rfl
      obtain ⟨cs, hV, hc401⟩ := el (hS.rdl 0 (h111.rdl qz hZ) rfl) h400
      obtain rfl := hV
      refine x_ld Tryd.underlying5 (hc401 0 _ rfl) hA (fun ac hA => ?_) rfl rfl rfl rfl rfl rfl
      obtain ⟨x402, h403, hF⟩ := ltt_ hF
      refine x_val (v := .int .i64 x402) hA (rv_i h403 (r_convI Tryd.underlying5 Tryd.underlying3 rfl (hA.ev rfl))) (fun ac hA => ?_) rfl rfl rfl
      obtain ⟨x404, h405, hF⟩ := ltt_ hF
      refine x_val (v := .int .i64 x404) hA (rv_i h405 (r_add rfl (hA.ev rfl) (hA.ev rfl))) (fun ac hA => ?_) rfl rfl rfl
      refine x_assign hA (fun ac hA => ?_) rfl rfl rfl rfl rfl
      refine wpList_nil ?_
      refine hKx396 _ _ ?_
      refine hK395 _ _ ?_
      refine wp_reg ?_
      refine x_move hA (fun ac hA => ?_) rfl rfl rfl rfl rfl
      obtain ⟨x406, h407, hF⟩ := ltt_ hF
      refine x_val (v := .int .i64 x406) hA (rv_i h407 (r_sub rfl (hA.ev rfl) (hA.ev rfl))) (fun ac hA => ?_) rfl rfl rfl
      refine x_assign hA (fun ac hA => ?_) rfl rfl rfl rfl rfl
      refine wpList_nil ?_
      cases hF
      exact ⟨_, N390_ _ rfl, hA.sub _ rfl, hS⟩
    replace hF := iff' hb394 hF
    refine wp_exit ?_
    cases hF
    exact hx390_0 x370 (T390_ _ rfl) ac w (hA.sub _ rfl) hS
  refine wp_reg ?_
  refine x_move hA (fun ac hA => ?_) rfl rfl rfl rfl rfl
  refine x_val hA (r_ltI rfl (hA.ev rfl) (hA.ev rfl)) (fun ac hA => ?_) rfl rfl rfl
  refine x_move hA (fun ac hA => ?_) rfl rfl rfl rfl rfl
  refine bcase (b := decide (a1 < 0)) (fun hb408 => ?_) fun hb408 => ?_
  · replace hF := ift hb408 hF
    refine x_off hb408 hA (fun ac hA => ?_) rfl rfl rfl rfl rfl
    refine x_off hb408 hA (fun ac hA => ?_) rfl rfl rfl rfl rfl
    refine x_off hb408 hA (fun ac hA => ?_) rfl rfl rfl rfl rfl
    refine x_off hb408 hA (fun ac hA => ?_) rfl rfl rfl rfl rfl
    refine x_pickt hb408 hA (fun ac hA => ?_) rfl rfl rfl rfl rfl rfl
    refine wpList_nil ?_
    exact hj1 true hF ac w (hA.sub _ rfl) hS
  replace hF := iff' hb408 hF
  refine x_on hb408 hA ?_ rfl rfl rfl
  refine x_move hA (fun ac hA => ?_) rfl rfl rfl rfl rfl
  refine x_on hb408 hA ?_ rfl rfl rfl
  refine x_move hA (fun ac hA => ?_) rfl rfl rfl rfl rfl
  refine x_on hb408 hA ?_ rfl rfl rfl
  refine x_len Tryd.underlying22 (hS.rdl 0 (ha0.rdl qz hZ) rfl).2.1 hA (fun ac hA => ?_) rfl rfl rfl rfl rfl
  refine x_on hb408 hA ?_ rfl rfl rfl
  refine x_val hA (r_gtI rfl (hA.ev rfl) (hA.ev rfl)) (fun ac hA => ?_) rfl rfl rfl
  refine x_pickf hb408 hA (fun ac hA => ?_) rfl rfl rfl rfl rfl rfl
  refine wpList_nil ?_
  exact hj1 (decide ((a0.length : Int) < a1)) hF ac w (hA.sub _ rfl) hS
end Go.Proofs.YthokgnonmcgkcaaDoor.M
namespace Go.Proofs.YthokgnonmcgkcaaDoor.M
open Go Go.RowKit Go.Proofs.YthokgnonmcgkcaaDoor.E
set_option linter.unusedVariables false
set_option linter.unusedSimpArgs false
noncomputable def r03_Reader_Byte_j1 (a0 : S63) (b109 : Bool) : Option (Int × S63) :=
  if b109 = true then (some (0, (⟨a0.f0, -1⟩ : S63))) else (ltt (IntKind.i64.wrap (a0.f1 + 1)) fun x114 => (ltt (IntKind.i64.wrap (x114 - 1)) fun x117 => ((at_ a0.f0 x117).bind fun x119 => (some (x119, (⟨a0.f0, x114⟩ : S63))))))
noncomputable def r03_Reader_Byte (a0 : S63) : Option (Int × S63) :=
  if (decide (a0.f1 < 0)) = true then (r03_Reader_Byte_j1 a0 true) else (r03_Reader_Byte_j1 a0 (decide ((a0.f0.length : Int) ≤ a0.f1)))
noncomputable def r03_Reader_Uint_b1 (l635 : (List Int)) (x640 : Int) : Option (Int × S63) :=
  some (0, (⟨l635, -1⟩ : S63))
noncomputable def r03_Reader_Uint_x1_0 (l761 : (List Int)) (x766 : Int) : Option (Int × S63) :=
  r03_Reader_Uint_b1 l761 x766
noncomputable def r03_Reader_Uint_j2 (y774 : (Int × S63)) (x796 : Int) (b804 : Bool) : Option (((List Int) × Int × Int × Int) ⊕ (((List Int) × Int) ⊕ (Int × S63))) :=
  if b804 = true then (some (.inr (.inl (y774.2.f0, y774.2.f1)))) else (some (.inr (.inr (x796, y774.2))))
noncomputable def r03_Reader_Uint_j1 (a1 : Int) (x704 : Int) (x705 : Int) (y774 : (Int × S63)) (b784 : Bool) : Option (((List Int) × Int × Int × Int) ⊕ (((List Int) × Int) ⊕ (Int × S63))) :=
  if b784 = true then (some (.inr (.inl (y774.2.f0, y774.2.f1)))) else (ltt (y774.1.tmod 128) fun x787 => (ltt (IntKind.u64.wrap x787) fun x789 => (ltt (IntKind.i64.wrap (7 * x705)) fun x791 => (chk (0 ≤ x791) (ltt (ishl .u64 x789 x791) fun x794 => (ltt (IntKind.u64.wrap (x704 + x794)) fun x796 => (if (decide (y774.1 < 128)) = true then (if (decide (0 < x705)) = true then (if (y774.1 == 0) = true then (r03_Reader_Uint_j2 y774 x796 true) else (r03_Reader_Uint_j2 y774 x796 (decide (a1 < x796)))) else (r03_Reader_Uint_j2 y774 x796 (decide (a1 < x796)))) else (ltt (IntKind.i64.wrap (x705 + 1)) fun x809 => (some (.inl (y774.2.f0, y774.2.f1, x796, x809)))))))))))
noncomputable def r03_Reader_Uint_l1 (a1 : Int) (l698 : (List Int)) (x703 : Int) (x704 : Int) (x705 : Int) : Option (((List Int) × Int × Int × Int) ⊕ (((List Int) × Int) ⊕ (Int × S63))) :=
  if (decide (x705 < 10)) = true then ((r03_Reader_Byte (⟨l698, x703⟩ : S63)).bind fun y774 => (if (decide (y774.2.f1 < 0)) = true then (r03_Reader_Uint_j1 a1 x704 x705 y774 true) else (if (x705 == 9) = true then (r03_Reader_Uint_j1 a1 x704 x705 y774 (decide (1 < y774.1))) else (r03_Reader_Uint_j1 a1 x704 x705 y774 false)))) else (some (.inr (.inl (l698, x703))))
noncomputable def r03_Reader_Uint (a0 : S63) (a1 : Int) : Option (Int × S63) :=
  (loop (fun s => r03_Reader_Uint_l1 a1 s.1 s.2.1 s.2.2.1 s.2.2.2) (a0.f0, a0.f1, 0, 0)).bind fun t => match t with | (.inl t) => r03_Reader_Uint_x1_0 t.1 t.2 | (.inr t) => some t
noncomputable def r03_Reader_Int (a0 : S63) : Option (Int × S63) :=
  (r03_Reader_Uint a0 18446744073709551615).bind fun y107 => (ltt (y107.1.tmod 2) fun x115 => (if (x115 == 1) = true then (ltt (IntKind.u64.wrap (y107.1.tdiv 2)) fun x119 => (ltt (IntKind.i64.wrap x119) fun x121 => (ltt (IntKind.i64.wrap ((IntKind.i64.wrap (0 - x121)) - 1)) fun x123 => (some (x123, y107.2))))) else (ltt (IntKind.u64.wrap (y107.1.tdiv 2)) fun x126 => (ltt (IntKind.i64.wrap x126) fun x128 => (some (x128, y107.2))))))
noncomputable def r03_Reader_Text_j1 (y109 : (Int × S63)) (b122 : Bool) : Option ((List UInt8) × S63) :=
  if b122 = true then (some ([], (⟨y109.2.f0, -1⟩ : S63))) else (ltt (IntKind.i64.wrap y109.1) fun x127 => (ltt (IntKind.i64.wrap (y109.2.f1 + x127)) fun x129 => ((cut_ y109.2.f0 y109.2.f1 x129).bind fun l131 => (some (bts l131, (⟨y109.2.f0, x129⟩ : S63))))))
noncomputable def r03_Reader_Text (a0 : S63) (a1 : Int) : Option ((List UInt8) × S63) :=
  ltt (IntKind.u64.wrap a1) fun x107 => ((r03_Reader_Uint a0 x107).bind fun y109 => (if (decide (y109.2.f1 < 0)) = true then (r03_Reader_Text_j1 y109 true) else (ltt (IntKind.i64.wrap ((y109.2.f0.length : Int) - y109.2.f1)) fun x141 => (ltt (IntKind.u64.wrap x141) fun x143 => (r03_Reader_Text_j1 y109 (decide (x143 < y109.1)))))))
noncomputable def r03_Reader_Ints_b1 (l24374 : (List Int)) (x24379 : Int) (l24380 : (List Int)) : Option ((List Int) × S63) :=
  some (l24380, (⟨l24374, x24379⟩ : S63))
noncomputable def r03_Reader_Ints_b2 (l24507 : (List Int)) (x24512 : Int) (l24513 : (List Int)) : Option ((List Int) × S63) :=
  r03_Reader_Ints_b1 l24507 x24512 l24513
noncomputable def r03_Reader_Ints_x1_7 (l24602 : (List Int)) (x24607 : Int) (l24608 : (List Int)) : Option ((List Int) × S63) :=
  r03_Reader_Ints_b2 l24602 x24607 l24608
noncomputable def r03_Reader_Ints_j2 (l24558 : (List Int)) (x24563 : Int) (l24564 : (List Int)) (x24568 : Int) (b24616 : Bool) : Option (((List Int) × Int × (List Int) × Int) ⊕ (((List Int) × Int × (List Int)))) :=
  if b24616 = true then ((r03_Reader_Int (⟨l24558, x24563⟩ : S63)).bind fun y24620 => (chk (l24564.length + [y24620.1].length ≤ 140737488355328 / 8) (ltt (IntKind.i64.wrap (x24568 + 1)) fun x24631 => (some (.inl (y24620.2.f0, y24620.2.f1, l24564 ++ [y24620.1], x24631)))))) else (some (.inr (l24558, x24563, l24564)))
noncomputable def r03_Reader_Ints_l1 (x120 : Int) (l24558 : (List Int)) (x24563 : Int) (l24564 : (List Int)) (x24568 : Int) : Option (((List Int) × Int × (List Int) × Int) ⊕ (((List Int) × Int × (List Int)))) :=
  if (decide (x24568 < x120)) = true then (r03_Reader_Ints_j2 l24558 x24563 l24564 x24568 (decide (0 ≤ x24563))) else (r03_Reader_Ints_j2 l24558 x24563 l24564 x24568 false)
noncomputable def r03_Reader_Ints_b3 (l24769 : (List Int)) (x24774 : Int) (l24775 : (List Int)) : Option ((List Int) × S63) :=
  r03_Reader_Ints_b1 l24769 x24774 l24775
noncomputable def r03_Reader_Ints_x2_9 (l24873 : (List Int)) (x24878 : Int) (l24879 : (List Int)) : Option ((List Int) × S63) :=
  r03_Reader_Ints_b3 l24873 x24878 l24879
noncomputable def r03_Reader_Ints_j3 (l24824 : (List Int)) (x24829 : Int) (l24830 : (List Int)) (x24834 : Int) (x24835 : Int) (b24887 : Bool) : Option (((List Int) × Int × (List Int) × Int × Int) ⊕ (((List Int) × Int × (List Int)))) :=
  if b24887 = true then ((r03_Reader_Int (⟨l24824, x24829⟩ : S63)).bind fun y24892 => (ltt (IntKind.i64.wrap (x24834 + y24892.1)) fun x24898 => (chk (l24830.length + [x24898].length ≤ 140737488355328 / 8) (ltt (IntKind.i64.wrap (x24835 + 1)) fun x24905 => (some (.inl (y24892.2.f0, y24892.2.f1, l24830 ++ [x24898], x24898, x24905))))))) else (some (.inr (l24824, x24829, l24830)))
noncomputable def r03_Reader_Ints_l2 (x120 : Int) (l24824 : (List Int)) (x24829 : Int) (l24830 : (List Int)) (x24834 : Int) (x24835 : Int) : Option (((List Int) × Int × (List Int) × Int × Int) ⊕ (((List Int) × Int × (List Int)))) :=
  if (decide (x24835 < x120)) = true then (r03_Reader_Ints_j3 l24824 x24829 l24830 x24834 x24835 (decide (0 ≤ x24829))) else (r03_Reader_Ints_j3 l24824 x24829 l24830 x24834 x24835 false)
noncomputable def r03_Reader_Ints_b4 (l25830 : (List Int)) (x25835 : Int) (l25836 : (List Int)) : Option ((List Int) × S63) :=
  r03_Reader_Ints_b1 l25830 x25835 l25836
noncomputable def r03_Reader_Ints_x3_11 (l26458 : (List Int)) (x26463 : Int) (l26464 : (List Int)) : Option ((List Int) × S63) :=
  r03_Reader_Ints_b4 l26458 x26463 l26464
noncomputable def r03_Reader_Ints_b5 (y26630 : (Int × S63)) (l26696 : (List Int)) : Option (((List Int) × Int × (List Int)) ⊕ (((List Int) × Int × (List Int)))) :=
  some (.inl (y26630.2.f0, y26630.2.f1, l26696))
noncomputable def r03_Reader_Ints_x4_13 (y26630 : (Int × S63)) (l26739 : (List Int)) : Option (((List Int) × Int × (List Int)) ⊕ (((List Int) × Int × (List Int)))) :=
  r03_Reader_Ints_b5 y26630 l26739
noncomputable def r03_Reader_Ints_l4 (y26617 : (Int × S63)) (x26636 : Int) (l26717 : (List Int)) (x26721 : Int) : Option (((List Int) × Int) ⊕ (((List Int)))) :=
  if (decide (x26721 ≤ x26636)) = true then (chk (l26717.length + [y26617.1].length ≤ 140737488355328 / 8) (ltt (IntKind.i64.wrap (x26721 + 1)) fun x26754 => (some (.inl (l26717 ++ [y26617.1], x26754))))) else (some (.inr (l26717)))
noncomputable def r03_Reader_Ints_j4 (x120 : Int) (l26148 : (List Int)) (x26153 : Int) (l26154 : (List Int)) (b26472 : Bool) : Option (((List Int) × Int × (List Int)) ⊕ (((List Int) × Int × (List Int)))) :=
  if b26472 = true then ((r03_Reader_Int (⟨l26148, x26153⟩ : S63)).bind fun y26617 => (ltt (IntKind.i64.wrap (x120 - (l26154.length : Int))) fun x26624 => (ltt (IntKind.i64.wrap (x26624 - 1)) fun x26626 => (ltt (IntKind.u64.wrap x26626) fun x26628 => ((r03_Reader_Uint y26617.2 x26628).bind fun y26630 => (ltt (IntKind.i64.wrap y26630.1) fun x26636 => ((loop (fun s => r03_Reader_Ints_l4 y26617 x26636 s.1 s.2) (l26154, 0)).bind fun t => r03_Reader_Ints_x4_13 y26630 t))))))) else (some (.inr (l26148, x26153, l26154)))
noncomputable def r03_Reader_Ints_l3 (x120 : Int) (l26148 : (List Int)) (x26153 : Int) (l26154 : (List Int)) : Option (((List Int) × Int × (List Int)) ⊕ (((List Int) × Int × (List Int)))) :=
  if (decide ((l26154.length : Int) < x120)) = true then (r03_Reader_Ints_j4 x120 l26148 x26153 l26154 (decide (0 ≤ x26153))) else (r03_Reader_Ints_j4 x120 l26148 x26153 l26154 false)
noncomputable def r03_Reader_Ints_b7 (y26768 : (Int × S63)) (l30788 : (List Int)) : Option ((List Int) × S63) :=
  r03_Reader_Ints_b1 y26768.2.f0 (y26768.2.f0.length : Int) l30788
noncomputable def r03_Reader_Ints_x5_5 (y26768 : (Int × S63)) (l30788 : (List Int)) : Option ((List Int) × S63) :=
  r03_Reader_Ints_b7 y26768 l30788
noncomputable def r03_Reader_Ints_l5 (y26768 : (Int × S63)) (x31060 : Int) : Option ((Int) ⊕ ((Unit) ⊕ ((List Int) × S63))) :=
  ltt (x31060.tmod 8) fun x31090 => (if (x31090 != 0) = true then (ltt (IntKind.i64.wrap (x31060.tdiv 8)) fun x31096 => (ltt (IntKind.i64.wrap (y26768.2.f1 + x31096)) fun x31098 => ((at_ y26768.2.f0 x31098).bind fun x31100 => (chk (0 ≤ x31090) (ltt (ishr .u8 x31100 x31090) fun x31104 => (ltt (x31104.tmod 2) fun x31106 => (if (x31106 == 1) = true then (some (.inr (.inr ([], (⟨y26768.2.f0, -1⟩ : S63))))) else (ltt (IntKind.i64.wrap (x31060 + 1)) fun x31111 => (some (.inl (x31111))))))))))) else (some (.inr (.inl ()))))
noncomputable def r03_Reader_Ints_b6 (y26768 : (Int × S63)) (l30788 : (List Int)) (x30792 : Int) : Option ((List Int) × S63) :=
  (loop (fun s => r03_Reader_Ints_l5 y26768 s) (x30792)).bind fun t => match t with | (.inl t) => r03_Reader_Ints_x5_5 y26768 l30788 | (.inr t) => some t
noncomputable def r03_Reader_Ints_x6_1 (y26768 : (Int × S63)) (l31991 : (List Int)) (x31995 : Int) : Option ((List Int) × S63) :=
  r03_Reader_Ints_b6 y26768 l31991 x31995
noncomputable def r03_Reader_Ints_b8 (y26761 : (Int × S63)) (l31535 : (List Int)) (x31540 : Int) (x32323 : Int) (x32324 : Int) : Option (((List Int) × Int × Int) ⊕ (((List Int) × Int))) :=
  ltt (IntKind.i64.wrap x32324) fun x32325 => (ltt (IntKind.i64.wrap (x32325 + y26761.1)) fun x32327 => (chk (l31535.length + [x32327].length ≤ 140737488355328 / 8) (ltt (IntKind.i64.wrap (x31540 + 1)) fun x32334 => (some (.inl (l31535 ++ [x32327], x32323, x32334))))))
noncomputable def r03_Reader_Ints_x7_3 (y26761 : (Int × S63)) (l31535 : (List Int)) (x31540 : Int) (x32406 : Int) (x32407 : Int) : Option (((List Int) × Int × Int) ⊕ (((List Int) × Int))) :=
  r03_Reader_Ints_b8 y26761 l31535 x31540 x32406 x32407
noncomputable def r03_Reader_Ints_l7 (y26768 : (Int × S63)) (x26774 : Int) (x32369 : Int) (x32370 : Int) (x32371 : Int) : Option ((Int × Int × Int) ⊕ ((Int × Int))) :=
  if (decide (x32371 < x26774)) = true then (ltt (IntKind.i64.wrap (x32369.tdiv 8)) fun x32415 => (ltt (IntKind.i64.wrap (y26768.2.f1 + x32415)) fun x32417 => ((at_ y26768.2.f0 x32417).bind fun x32419 => (ltt (x32369.tmod 8) fun x32422 => (chk (0 ≤ x32422) (ltt (ishr .u8 x32419 x32422) fun x32425 => (ltt (x32425.tmod 2) fun x32427 => (ltt (IntKind.u64.wrap x32427) fun x32429 => (chk (0 ≤ x32371) (ltt (ishl .u64 x32429 x32371) fun x32432 => (ltt (IntKind.u64.wrap (x32370 + x32432)) fun x32434 => (ltt (IntKind.i64.wrap (x32369 + 1)) fun x32436 => (ltt (IntKind.i64.wrap (x32371 + 1)) fun x32438 => (some (.inl (x32436, x32434, x32438)))))))))))))))) else (some (.inr (x32369, x32370)))
noncomputable def r03_Reader_Ints_l6 (x120 : Int) (y26761 : (Int × S63)) (y26768 : (Int × S63)) (x26774 : Int) (l31535 : (List Int)) (x31539 : Int) (x31540 : Int) : Option (((List Int) × Int × Int) ⊕ (((List Int) × Int))) :=
  if (decide (x31540 < x120)) = true then ((loop (fun s => r03_Reader_Ints_l7 y26768 x26774 s.1 s.2.1 s.2.2) (x31539, 0, 0)).bind fun t => r03_Reader_Ints_x7_3 y26761 l31535 x31540 t.1 t.2) else (some (.inr (l31535, x31539)))
noncomputable def r03_Reader_Ints_j5 (x120 : Int) (y26761 : (Int × S63)) (y26768 : (Int × S63)) (x26774 : Int) (b26788 : Bool) : Option ((List Int) × S63) :=
  if b26788 = true then (some ([], (⟨y26768.2.f0, -1⟩ : S63))) else ((loop (fun s => r03_Reader_Ints_l6 x120 y26761 y26768 x26774 s.1 s.2.1 s.2.2) ([], 0, 0)).bind fun t => r03_Reader_Ints_x6_1 y26768 t.1 t.2)
noncomputable def r03_Reader_Ints_j1 (y107 : (Int × S63)) (y114 : (Int × S63)) (x120 : Int) (b125 : Bool) : Option ((List Int) × S63) :=
  if b125 = true then (some ([], (⟨y114.2.f0, -1⟩ : S63))) else (if (y107.1 == 0) = true then ((loop (fun s => r03_Reader_Ints_l1 x120 s.1 s.2.1 s.2.2.1 s.2.2.2) (y114.2.f0, y114.2.f1, [], 0)).bind fun t => r03_Reader_Ints_x1_7 t.1 t.2.1 t.2.2) else (if (y107.1 == 1) = true then ((loop (fun s => r03_Reader_Ints_l2 x120 s.1 s.2.1 s.2.2.1 s.2.2.2.1 s.2.2.2.2) (y114.2.f0, y114.2.f1, [], 0, 0)).bind fun t => r03_Reader_Ints_x2_9 t.1 t.2.1 t.2.2) else (if (y107.1 == 2) = true then ((loop (fun s => r03_Reader_Ints_l3 x120 s.1 s.2.1 s.2.2) (y114.2.f0, y114.2.f1, [])).bind fun t => r03_Reader_Ints_x3_11 t.1 t.2.1 t.2.2) else (if (x120 == 0) = true then (r03_Reader_Ints_b1 y114.2.f0 y114.2.f1 []) else ((r03_Reader_Int y114.2).bind fun y26761 => ((r03_Reader_Byte y26761.2).bind fun y26768 => (ltt (IntKind.i64.wrap y26768.1) fun x26774 => (if (decide (y26768.2.f1 < 0)) = true then (r03_Reader_Ints_j5 x120 y26761 y26768 x26774 true) else (if (decide (64 < x26774)) = true then (r03_Reader_Ints_j5 x120 y26761 y26768 x26774 true) else (ltt (IntKind.i64.wrap ((y26768.2.f0.length : Int) - y26768.2.f1)) fun x32442 => (ltt (IntKind.i64.wrap (x120 * x26774)) fun x32444 => (ltt (IntKind.i64.wrap (x32444 + 7)) fun x32446 => (ltt (IntKind.i64.wrap (x32446.tdiv 8)) fun x32448 => (r03_Reader_Ints_j5 x120 y26761 y26768 x26774 (x32442 != x32448)))))))))))))))
noncomputable def r03_Reader_Ints (a0 : S63) : Option ((List Int) × S63) :=
  (r03_Reader_Byte a0).bind fun y107 => ((r03_Reader_Uint y107.2 4096).bind fun y114 => (ltt (IntKind.i64.wrap y114.1) fun x120 => (if (decide (y114.2.f1 < 0)) = true then (r03_Reader_Ints_j1 y107 y114 x120 true) else (r03_Reader_Ints_j1 y107 y114 x120 (decide (3 < y107.1))))))
noncomputable def r03_ReadInts (a0 : (List Int)) : Option ((List Int) × Bool) :=
  (r03_Reader_Ints (⟨a0, 0⟩ : S63)).bind fun y105 => (if (y105.2.f1 != (a0.length : Int)) = true then (some ([], false)) else (some (y105.1, true)))
end Go.Proofs.YthokgnonmcgkcaaDoor.M
