/- Texts of the claim, joined: what it uses of Mrr, Tr, Dcr. -/
import Derived.Test.YthokgnonmcgkcaaDoorZd
namespace Go.Proofs.YthokgnonmcgkcaaDoor.M
open Go Go.RowKit Go.Proofs.YthokgnonmcgkcaaDoor.E
set_option linter.unusedVariables false
set_option linter.unusedSimpArgs false
set_option maxRecDepth 100000 in
set_option maxHeartbeats 4000000 in
theorem F_r03_Reader_Byte {r : World} {L : List HP} {w : World} {Z : Nat → Prop} {wz : World} (a0 : S63) (g0 : Nat) {y : (Int × S63)} (hF : r03_Reader_Byte a0 = some y) (qz : Nat) (hZ : L[qz]? = some (zone Z wz)) (hS : SH r (obj63 Z wz g0 a0 :: L) w) :
    Ret Tryd.prog 73 #[.pointer (some ⟨g0, 0, none⟩)] w fun v w' => v = .int .u8 y.1 ∧ SH r (obj63 Z wz g0 y.2 :: L) w' := by
  refine enter Tryd.func73 rfl Tryd.ntmps73 [(0, .pointer (some ⟨g0, 0, none⟩))] rfl (by simp) ?_
  intro ac hA Qf hQ hQn
  unfold r03_Reader_Byte at hF
  obtain ⟨A101, n102, c103, hS⟩ := obj63_open hS
  replace hS := hS.pk 1
  have hQ0 := SH.unpure hS
  clear hS
  obtain ⟨h104, hS⟩ := hQ0
  refine wp_seq_k fun K105 hK105 => ?_
  refine wp_reg ?_
  refine x_assign hA (fun ac hA => ?_) rfl rfl rfl rfl rfl
  refine wpList_nil ?_
  refine hK105 _ _ ?_
  refine wp_seq_k fun K106 hK106 => ?_
  refine wp_seq_k fun K107 hK107 => ?_
  have hj1 : ∀ (b109 : Bool), r03_Reader_Byte_j1 a0 b109 = some y → ∀ (ac : Act) (w : World), FR 41 [] ac [(0, .pointer (some ⟨g0, 0, none⟩)), (19, .bool b109)] → SH r (blk g0 63 [.slice A101 n102 c103, .int .i64 a0.f1] :: L) w → K107 ac w := by
    intro b109 hF ac w hA hS
    unfold r03_Reader_Byte_j1 at hF
    refine hK107 _ _ ?_
    refine c_if hA rfl (fun hb110 => ?_) fun hb110 => ?_
    · replace hF := ift hb110 hF
      refine wp_seq_k fun K111 hK111 => ?_
      refine wp_reg ?_
      refine x_move hA (fun ac hA => ?_) rfl rfl rfl rfl rfl
      refine x_val hA (r_nilCheck rfl (hA.ev rfl)) (fun ac hA => ?_) rfl rfl rfl
      refine x_fab fa63_1 hA (fun ac hA => ?_) rfl rfl rfl rfl rfl
      refine x_stb 0 sz3 hA hS rfl (fun  ac w hS hA => ?_) rfl rfl rfl rfl rfl rfl rfl rfl
      refine wpList_nil ?_
      refine hK111 _ _ ?_
      refine wp_seq_k fun K112 hK112 => ?_
      refine wp_reg ?_
      refine x_assign hA (fun ac hA => ?_) rfl rfl rfl rfl rfl
      refine wpList_nil ?_
      refine hK112 _ _ ?_
      refine wp_ret ?_
      replace hS := SH.pure_ h104 hS
      replace hS := hS.pk 1
      replace hS := obj63_mk (x := (⟨a0.f0, -1⟩ : S63)) hS
      cases hF
      refine hQ _ _ ?_
      refine lv Tryd.results73 hA rfl ?_
      exact ⟨rfl, hS⟩
    replace hF := iff' hb110 hF
    refine wp_skip ?_
    refine hK106 _ _ ?_
    refine wp_seq_k fun K113 hK113 => ?_
    refine wp_reg ?_
    refine x_move hA (fun ac hA => ?_) rfl rfl rfl rfl rfl
    refine x_val hA (r_nilCheck rfl (hA.ev rfl)) (fun ac hA => ?_) rfl rfl rfl
    refine x_fab fa63_1 hA (fun ac hA => ?_) rfl rfl rfl rfl rfl
    refine x_ld Tryd.underlying3 (hS.cell 0 rfl 1 _ rfl) hA (fun ac hA => ?_) rfl rfl rfl rfl rfl rfl
    obtain ⟨x114, h115, hF⟩ := ltt_ hF
    refine x_val (v := .int .i64 x114) hA (rv_i h115 (r_add rfl (hA.ev rfl) (hA.ev rfl))) (fun ac hA => ?_) rfl rfl rfl
    refine x_val hA (r_nilCheck rfl (hA.ev rfl)) (fun ac hA => ?_) rfl rfl rfl
    refine x_fab fa63_1 hA (fun ac hA => ?_) rfl rfl rfl rfl rfl
    refine x_stb 0 sz3 hA hS rfl (fun  ac w hS hA => ?_) rfl rfl rfl rfl rfl rfl rfl rfl
    refine wpList_nil ?_
    refine hK113 _ _ ?_
    refine wp_seq_k fun K116 hK116 => ?_
    refine wp_draw [0, 1, 3, 7, 0, 16, 48, 112, 240, 511, 1023, 2047] [] rfl hA hS (by kernel_rfl) (by kernel_rfl) (by kernel_rfl) (by kernel_rfl) fun w hS => ?_
    obtain ⟨x117, h118, hF⟩ := ltt_ hF
    obtain ⟨x119, h120, hF⟩ := bnd hF
    obtain ⟨cs, hV, hc121⟩ := el (hS.rdl 1 (h104.rdl qz hZ) rfl) h120
    obtain rfl := hV
    refine ⟨[(0, .pointer (some ⟨g0, 0, none⟩)), (1, .pointer (some ⟨g0, 0, none⟩)), (2, .pointer (some ⟨g0, 0, none⟩)), (3, .slice A101 n102 c103), (4, .pointer (some ⟨g0, 0, none⟩)), (5, .pointer (some ⟨g0, 0, none⟩)), (6, .pointer (some ⟨g0, 1, none⟩)), (7, .int .i64 x114), (8, .int .i64 x117), (9, .pointer (some (ea A101 (x117.toNat * 1)))), (10, .int .u8 x119), (11, .int .u8 x119)], ?_⟩
    refine dEnd [0, 1, 2, 3, 4, 5, 6, 7, 8, 9, 10, 11] (by kernel_rfl) ⟨pu rfl rfl [(0, .pointer (some ⟨g0, 0, none⟩))] (fun ac hA => y_move hA rfl rfl) rfl rfl, pu rfl rfl [(30, .pointer (some ⟨g0, 0, none⟩))] (fun ac hA => r_nilCheck rfl (hA.ev rfl)) rfl rfl, pu rfl rfl [(31, .pointer (some ⟨g0, 0, none⟩))] (fun ac hA => y_fab fa63_0 hA rfl rfl) rfl rfl, pu rfl rfl [(32, .pointer (some ⟨g0, 0, none⟩))] (fun ac hA => y_ld Tryd.underlying22 (hS.cell 0 rfl 0 _ rfl) hA rfl rfl rfl) rfl rfl, pu rfl rfl [(0, .pointer (some ⟨g0, 0, none⟩))] (fun ac hA => y_move hA rfl rfl) rfl rfl, pu rfl rfl [(34, .pointer (some ⟨g0, 0, none⟩))] (fun ac hA => r_nilCheck rfl (hA.ev rfl)) rfl rfl, pu rfl rfl [(35, .pointer (some ⟨g0, 0, none⟩))] (fun ac hA => y_fab fa63_1 hA rfl rfl) rfl rfl, pu rfl rfl [(36, .pointer (some ⟨g0, 1, none⟩))] (fun ac hA => y_ld Tryd.underlying3 (hS.cell 0 rfl 1 _ rfl) hA rfl rfl rfl) rfl rfl, pu rfl rfl [(37, .int .i64 x114)] (fun ac hA => (rv_i h118 (r_sub rfl (hA.ev rfl) (hA.ev rfl)) : RunV _ _ _ _ (.int .i64 x117))) rfl rfl, pu rfl rfl [(33, .slice A101 n102 c103), (38, .int .i64 x117)] (fun ac hA => y_ia Tryd.underlying22 sz5 (hS.rdl 1 (h104.rdl qz hZ) rfl) h120 hA rfl rfl rfl) rfl rfl, pu rfl rfl [(39, .pointer (some (ea A101 (x117.toNat * 1))))] (fun ac hA => y_ld Tryd.underlying5 (hc121 0 _ rfl) hA rfl rfl rfl) rfl rfl, pu rfl rfl [(40, .int .u8 x119)] (fun ac hA => y_assign hA rfl rfl) rfl rfl, trivial⟩ ⟨by kernel_rfl, by kernel_rfl⟩ [(0, .pointer (some ⟨g0, 0, none⟩)), (2, .int .u8 x119)] rfl (fun ac hA => ?_)
    refine hK116 _ _ ?_
    refine wp_ret ?_
    replace hS := SH.pure_ h104 hS
    replace hS := hS.pk 1
    replace hS := obj63_mk (x := (⟨a0.f0, x114⟩ : S63)) hS
    cases hF
    refine hQ _ _ ?_
    refine lv Tryd.results73 hA rfl ?_
    exact ⟨rfl, hS⟩
  refine wp_draw [0, 1, 3, 7, 15, 31, 63, 127, 255, 511, 63, 1087, 3135, 7231, 15423, 32767, 65535] [] rfl hA hS (by kernel_rfl) (by kernel_rfl) (by kernel_rfl) (by kernel_rfl) fun w hS => ?_
  refine bcase (b := decide (a0.f1 < 0)) (fun hb122 => ?_) fun hb122 => ?_
  · replace hF := ift hb122 hF
    refine ⟨[(0, .pointer (some ⟨g0, 0, none⟩)), (1, .pointer (some ⟨g0, 0, none⟩)), (2, .pointer (some ⟨g0, 1, none⟩)), (3, .int .i64 a0.f1), (4, .bool (decide (a0.f1 < 0))), (5, .bool (decide (a0.f1 < 0))), (6, undef), (7, undef), (8, undef), (9, undef), (10, undef), (11, undef), (12, undef), (13, undef), (14, undef), (15, undef), (16, .bool true)], ?_⟩
    refine dEnd [0, 1, 2, 3, 4, 5, 6, 7, 8, 9, 10, 11, 12, 13, 14, 15, 16] (by kernel_rfl) ⟨pu rfl rfl [(0, .pointer (some ⟨g0, 0, none⟩))] (fun ac hA => y_move hA rfl rfl) rfl rfl, pu rfl rfl [(3, .pointer (some ⟨g0, 0, none⟩))] (fun ac hA => r_nilCheck rfl (hA.ev rfl)) rfl rfl, pu rfl rfl [(4, .pointer (some ⟨g0, 0, none⟩))] (fun ac hA => y_fab fa63_1 hA rfl rfl) rfl rfl, pu rfl rfl [(5, .pointer (some ⟨g0, 1, none⟩))] (fun ac hA => y_ld Tryd.underlying3 (hS.cell 0 rfl 1 _ rfl) hA rfl rfl rfl) rfl rfl, pu rfl rfl [(6, .int .i64 a0.f1)] (fun ac hA => r_ltI rfl (hA.ev rfl) (hA.ev rfl)) rfl rfl, pu rfl rfl [(7, .bool (decide (a0.f1 < 0)))] (fun ac hA => y_move hA rfl rfl) rfl rfl, puOff rfl rfl rfl rfl [(0, .pointer (some ⟨g0, 0, none⟩)), (8, .bool (decide (a0.f1 < 0)))] rfl hb122 rfl, puOff rfl rfl rfl rfl [(8, .bool (decide (a0.f1 < 0))), (9, undef)] rfl hb122 rfl, puOff rfl rfl rfl rfl [(8, .bool (decide (a0.f1 < 0))), (10, undef)] rfl hb122 rfl, puOff rfl rfl rfl rfl [(8, .bool (decide (a0.f1 < 0))), (11, undef)] rfl hb122 rfl, puOff rfl rfl rfl rfl [(0, .pointer (some ⟨g0, 0, none⟩)), (8, .bool (decide (a0.f1 < 0)))] rfl hb122 rfl, puOff rfl rfl rfl rfl [(8, .bool (decide (a0.f1 < 0))), (13, undef)] rfl hb122 rfl, puOff rfl rfl rfl rfl [(8, .bool (decide (a0.f1 < 0))), (14, undef)] rfl hb122 rfl, puOff rfl rfl rfl rfl [(8, .bool (decide (a0.f1 < 0))), (15, undef)] rfl hb122 rfl, puOff rfl rfl rfl rfl [(8, .bool (decide (a0.f1 < 0))), (16, undef)] rfl hb122 rfl, puOff rfl rfl rfl rfl [(8, .bool (decide (a0.f1 < 0))), (12, undef), (17, undef)] rfl hb122 rfl, pu rfl rfl [(8, .bool (decide (a0.f1 < 0))), (18, undef)] (fun ac hA => y_pickt hb122 hA rfl rfl rfl) rfl rfl, trivial⟩ ⟨by kernel_rfl, by kernel_rfl⟩ [(0, .pointer (some ⟨g0, 0, none⟩)), (19, .bool true)] rfl (fun ac hA => ?_)
    exact hj1 true hF ac w (hA.sub _ rfl) hS
  replace hF := iff' hb122 hF
  refine ⟨[(0, .pointer (some ⟨g0, 0, none⟩)), (1, .pointer (some ⟨g0, 0, none⟩)), (2, .pointer (some ⟨g0, 1, none⟩)), (3, .int .i64 a0.f1), (4, .bool (decide (a0.f1 < 0))), (5, .bool (decide (a0.f1 < 0))), (6, .pointer (some ⟨g0, 0, none⟩)), (7, .pointer (some ⟨g0, 0, none⟩)), (8, .pointer (some ⟨g0, 1, none⟩)), (9, .int .i64 a0.f1), (10, .pointer (some ⟨g0, 0, none⟩)), (11, .pointer (some ⟨g0, 0, none⟩)), (12, .pointer (some ⟨g0, 0, none⟩)), (13, .slice A101 n102 c103), (14, .int .i64 (a0.f0.length : Int)), (15, .bool (decide ((a0.f0.length : Int) ≤ a0.f1))), (16, .bool (decide ((a0.f0.length : Int) ≤ a0.f1)))], ?_⟩
  refine dEnd [0, 1, 2, 3, 4, 5, 6, 7, 8, 9, 10, 11, 12, 13, 14, 15, 16] (by kernel_rfl) ⟨pu rfl rfl [(0, .pointer (some ⟨g0, 0, none⟩))] (fun ac hA => y_move hA rfl rfl) rfl rfl, pu rfl rfl [(3, .pointer (some ⟨g0, 0, none⟩))] (fun ac hA => r_nilCheck rfl (hA.ev rfl)) rfl rfl, pu rfl rfl [(4, .pointer (some ⟨g0, 0, none⟩))] (fun ac hA => y_fab fa63_1 hA rfl rfl) rfl rfl, pu rfl rfl [(5, .pointer (some ⟨g0, 1, none⟩))] (fun ac hA => y_ld Tryd.underlying3 (hS.cell 0 rfl 1 _ rfl) hA rfl rfl rfl) rfl rfl, pu rfl rfl [(6, .int .i64 a0.f1)] (fun ac hA => r_ltI rfl (hA.ev rfl) (hA.ev rfl)) rfl rfl, pu rfl rfl [(7, .bool (decide (a0.f1 < 0)))] (fun ac hA => y_move hA rfl rfl) rfl rfl, puOn rfl rfl rfl rfl [(0, .pointer (some ⟨g0, 0, none⟩)), (8, .bool (decide (a0.f1 < 0)))] rfl hb122 (fun ac hA => y_move hA rfl rfl) rfl, puOn rfl rfl rfl rfl [(8, .bool (decide (a0.f1 < 0))), (9, .pointer (some ⟨g0, 0, none⟩))] rfl hb122 (fun ac hA => r_nilCheck rfl (hA.ev rfl)) rfl, puOn rfl rfl rfl rfl [(8, .bool (decide (a0.f1 < 0))), (10, .pointer (some ⟨g0, 0, none⟩))] rfl hb122 (fun ac hA => y_fab fa63_1 hA rfl rfl) rfl, puOn rfl rfl rfl rfl [(8, .bool (decide (a0.f1 < 0))), (11, .pointer (some ⟨g0, 1, none⟩))] rfl hb122 (fun ac hA => y_ld Tryd.underlying3 (hS.cell 0 rfl 1 _ rfl) hA rfl rfl rfl) rfl, puOn rfl rfl rfl rfl [(0, .pointer (some ⟨g0, 0, none⟩)), (8, .bool (decide (a0.f1 < 0)))] rfl hb122 (fun ac hA => y_move hA rfl rfl) rfl, puOn rfl rfl rfl rfl [(8, .bool (decide (a0.f1 < 0))), (13, .pointer (some ⟨g0, 0, none⟩))] rfl hb122 (fun ac hA => r_nilCheck rfl (hA.ev rfl)) rfl, puOn rfl rfl rfl rfl [(8, .bool (decide (a0.f1 < 0))), (14, .pointer (some ⟨g0, 0, none⟩))] rfl hb122 (fun ac hA => y_fab fa63_0 hA rfl rfl) rfl, puOn rfl rfl rfl rfl [(8, .bool (decide (a0.f1 < 0))), (15, .pointer (some ⟨g0, 0, none⟩))] rfl hb122 (fun ac hA => y_ld Tryd.underlying22 (hS.cell 0 rfl 0 _ rfl) hA rfl rfl rfl) rfl, puOn rfl rfl rfl rfl [(8, .bool (decide (a0.f1 < 0))), (16, .slice A101 n102 c103)] rfl hb122 (fun ac hA => y_len Tryd.underlying22 (hS.rdl 1 (h104.rdl qz hZ) rfl).2.1 hA rfl rfl) rfl, puOn rfl rfl rfl rfl [(8, .bool (decide (a0.f1 < 0))), (12, .int .i64 a0.f1), (17, .int .i64 (a0.f0.length : Int))] rfl hb122 (fun ac hA => r_geI rfl (hA.ev rfl) (hA.ev rfl)) rfl, pu rfl rfl [(8, .bool (decide (a0.f1 < 0))), (18, .bool (decide ((a0.f0.length : Int) ≤ a0.f1)))] (fun ac hA => y_pickf hb122 hA rfl rfl rfl) rfl rfl, trivial⟩ ⟨by kernel_rfl, by kernel_rfl⟩ [(0, .pointer (some ⟨g0, 0, none⟩)), (19, .bool (decide ((a0.f0.length : Int) ≤ a0.f1)))] rfl (fun ac hA => ?_)
  exact hj1 (decide ((a0.f0.length : Int) ≤ a0.f1)) hF ac w (hA.sub _ rfl) hS
set_option maxRecDepth 100000 in
set_option maxHeartbeats 4000000 in
theorem F_r03_Reader_Uint {r : World} {L : List HP} {w : World} {Z : Nat → Prop} {wz : World} (a0 : S63) (a1 : Int) (g0 : Nat) {y : (Int × S63)} (hF : r03_Reader_Uint a0 a1 = some y) (qz : Nat) (hZ : L[qz]? = some (zone Z wz)) (hS : SH r (obj63 Z wz g0 a0 :: L) w) :
    Ret Tryd.prog 52 #[.pointer (some ⟨g0, 0, none⟩), .int .u64 a1] w fun v w' => v = .int .u64 y.1 ∧ SH r (obj63 Z wz g0 y.2 :: L) w' := by
  refine enter Tryd.func52 rfl Tryd.ntmps52 [(0, .pointer (some ⟨g0, 0, none⟩)), (1, .int .u64 a1)] rfl (by simp) ?_
  intro ac hA Qf hQ hQn
  unfold r03_Reader_Uint at hF
  obtain ⟨A101, n102, c103, hS⟩ := obj63_open hS
  replace hS := hS.pk 1
  have hQ0 := SH.unpure hS
  clear hS
  obtain ⟨h104, hS⟩ := hQ0
  refine wp_seq_k fun K105 hK105 => ?_
  refine wp_reg ?_
  refine x_assign hA (fun ac hA => ?_) rfl rfl rfl rfl rfl
  refine wpList_nil ?_
  refine hK105 _ _ ?_
  refine wp_seq_k fun K106 hK106 => ?_
  refine wp_reg ?_
  refine x_assign hA (fun ac hA => ?_) rfl rfl rfl rfl rfl
  refine wpList_nil ?_
  refine hK106 _ _ ?_
  refine wp_seq_k fun K107 hK107 => ?_
  refine wp_seq_k fun K461 hK461 => ?_
  refine wp_reg ?_
  refine x_assign hA (fun ac hA => ?_) rfl rfl rfl rfl rfl
  refine wpList_nil ?_
  refine hK461 _ _ ?_
  refine wp_block_k fun Kx462 hKx462 => ?_
  have hb1 : ∀ (l635 : (List Int)) (x640 : Int), r03_Reader_Uint_b1 l635 x640 = some y → ∀ (A636 : Option Addr) (n637 : Nat) (c638 : Nat) (h639 : Imm Z wz (kI .u8) A636 n637 c638 l635) (ac : Act) (w : World), FR 52 [] ac [(0, .pointer (some ⟨g0, 0, none⟩))] → SH r (blk g0 63 [.slice A636 n637 c638, .int .i64 x640] :: L) w → Kx462 ac w := by
    intro l635 x640 hF A636 n637 c638 h639 ac w hA hS
    unfold r03_Reader_Uint_b1 at hF
    refine hKx462 _ _ ?_
    refine hK107 _ _ ?_
    refine wp_seq_k fun K641 hK641 => ?_
    refine wp_reg ?_
    refine x_move hA (fun ac hA => ?_) rfl rfl rfl rfl rfl
    refine x_val hA (r_nilCheck rfl (hA.ev rfl)) (fun ac hA => ?_) rfl rfl rfl
    refine x_fab fa63_1 hA (fun ac hA => ?_) rfl rfl rfl rfl rfl
    refine x_stb 0 sz3 hA hS rfl (fun  ac w hS hA => ?_) rfl rfl rfl rfl rfl rfl rfl rfl
    refine wpList_nil ?_
    refine hK641 _ _ ?_
    refine wp_seq_k fun K642 hK642 => ?_
    refine wp_reg ?_
    refine x_assign hA (fun ac hA => ?_) rfl rfl rfl rfl rfl
    refine wpList_nil ?_
    refine hK642 _ _ ?_
    refine wp_ret ?_
    replace hS := SH.pure_ h639 hS
    replace hS := hS.pk 1
    replace hS := obj63_mk (x := (⟨l635, -1⟩ : S63)) hS
    cases hF
    refine hQ _ _ ?_
    refine lv Tryd.results52 hA rfl ?_
    exact ⟨rfl, hS⟩
  obtain ⟨t766, hl766, hF⟩ := bnd hF
  have hR766 := hF
  have hx766_0 : ∀ (l761 : (List Int)) (x766 : Int), (.inl (l761, x766)) = t766 → ∀ (A762 : Option Addr) (n763 : Nat) (c764 : Nat) (h765 : Imm Z wz (kI .u8) A762 n763 c764 l761) (ac : Act) (w : World), FR 52 [] ac [(0, .pointer (some ⟨g0, 0, none⟩))] → SH r (blk g0 63 [.slice A762 n763 c764, .int .i64 x766] :: L) w → Kx462 ac w := by
    intro l761 x766 ht A762 n763 c764 h765 ac w hA hS
    subst ht
    replace hF : r03_Reader_Uint_x1_0 l761 x766 = some y := hF
    unfold r03_Reader_Uint_x1_0 at hF
    exact hb1 l761 x766 hF A762 n763 c764 h765 ac w (hA.sub _ rfl) hS
  refine wp_loop_fn hl766 (fun s ac w => ∃ (A699 : Option Addr) (n700 : Nat) (c701 : Nat), Imm Z wz (kI .u8) A699 n700 c701 s.1 ∧ FR 52 [] ac [(0, .pointer (some ⟨g0, 0, none⟩)), (1, .int .u64 a1), (5, .int .u64 s.2.2.1), (6, .int .i64 s.2.2.2)] ∧ SH r (blk g0 63 [.slice A699 n700 c701, .int .i64 s.2.1] :: L) w) ⟨A101, n102, c103, h104, hA.sub _ rfl, hS⟩ ?_
  intro N766 s766 o766 hF N766_ T766_ ac w hLab
  obtain ⟨l698, x703, x704, x705⟩ := s766
  replace hF : r03_Reader_Uint_l1 a1 l698 x703 x704 x705 = some o766 := hF
  unfold r03_Reader_Uint_l1 at hF
  try dsimp only at hLab
  obtain ⟨A699, n700, c701, h702, hA, hS⟩ := hLab
  refine wp_seq_k fun K768 hK768 => ?_
  refine wp_seq_k fun K769 hK769 => ?_
  refine wp_reg ?_
  refine x_move hA (fun ac hA => ?_) rfl rfl rfl rfl rfl
  refine x_val hA (r_ltI rfl (hA.ev rfl) (hA.ev rfl)) (fun ac hA => ?_) rfl rfl rfl
  refine wpList_nil ?_
  refine hK769 _ _ ?_
  refine c_if hA rfl (fun hb770 => ?_) fun hb770 => ?_
  · replace hF := ift hb770 hF
    refine wp_skip ?_
    refine hK768 _ _ ?_
    refine wp_seq_k fun K771 hK771 => ?_
    refine wp_block_k fun Kx772 hKx772 => ?_
    refine wp_seq_k fun K773 hK773 => ?_
    refine wp_reg ?_
    refine x_move hA (fun ac hA => ?_) rfl rfl rfl rfl rfl
    replace hS := SH.pure_ h702 hS
    replace hS := hS.pk 1
    replace hS := obj63_mk (x := (⟨l698, x703⟩ : S63)) hS
    obtain ⟨y774, h775, hF⟩ := bnd hF
    refine x_call en73 hA (F_r03_Reader_Byte (L := L) (⟨l698, x703⟩ : S63) g0 h775 (qz + 0) hZ hS) (fun v ac w hR hA => ?_) rfl rfl rfl rfl rfl
    obtain ⟨rfl, hS⟩ := hR
    obtain ⟨A776, n777, c778, hS⟩ := obj63_open hS
    replace hS := hS.pk 1
    have hQ0 := SH.unpure hS
    clear hS
    obtain ⟨h779, hS⟩ := hQ0
    refine x_assign hA (fun ac hA => ?_) rfl rfl rfl rfl rfl
    refine wpList_nil ?_
    refine hK773 _ _ ?_
    refine wp_seq_k fun K780 hK780 => ?_
    refine wp_seq_k fun K781 hK781 => ?_
    have hj1 : ∀ (b784 : Bool), r03_Reader_Uint_j1 a1 x704 x705 y774 b784 = some o766 → ∀ (ac : Act) (w : World), FR 52 [] ac [(0, .pointer (some ⟨g0, 0, none⟩)), (1, .int .u64 a1), (5, .int .u64 x704), (6, .int .i64 x705), (7, .int .u8 y774.1), (26, .bool b784)] → SH r (blk g0 63 [.slice A776 n777 c778, .int .i64 y774.2.f1] :: L) w → K781 ac w := by
      intro b784 hF ac w hA hS
      unfold r03_Reader_Uint_j1 at hF
      refine hK781 _ _ ?_
      refine c_if hA rfl (fun hb785 => ?_) fun hb785 => ?_
      · replace hF := ift hb785 hF
        refine wp_exit ?_
        cases hF
        exact hx766_0 y774.2.f0 y774.2.f1 (T766_ _ rfl) A776 n777 c778 h779 ac w (hA.sub _ rfl) hS
      replace hF := iff' hb785 hF
      refine wp_skip ?_
      refine hK780 _ _ ?_
      refine wp_seq_k fun K786 hK786 => ?_
      refine wp_reg ?_
      refine x_move hA (fun ac hA => ?_) rfl rfl rfl rfl rfl
      refine x_move hA (fun ac hA => ?_) rfl rfl rfl rfl rfl
      obtain ⟨x787, h788, hF⟩ := ltt_ hF
      refine x_val (v := .int .u8 x787) hA (rv_i h788 (r_rem rfl (hA.ev rfl) (hA.ev rfl) (by decide))) (fun ac hA => ?_) rfl rfl rfl
      obtain ⟨x789, h790, hF⟩ := ltt_ hF
      refine x_val (v := .int .u64 x789) hA (rv_i h790 (r_convI Tryd.underlying5 Tryd.underlying36 rfl (hA.ev rfl))) (fun ac hA => ?_) rfl rfl rfl
      refine x_move hA (fun ac hA => ?_) rfl rfl rfl rfl rfl
      obtain ⟨x791, h792, hF⟩ := ltt_ hF
      refine x_val (v := .int .i64 x791) hA (rv_i h792 (r_mul rfl (hA.ev rfl) (hA.ev rfl))) (fun ac hA => ?_) rfl rfl rfl
      obtain ⟨h793, hF⟩ := chk_some hF
      obtain ⟨x794, h795, hF⟩ := ltt_ hF
      refine x_val (v := .int .u64 x794) hA (rv_i h795 (r_shl rfl (hA.ev rfl) (hA.ev rfl) h793)) (fun ac hA => ?_) rfl rfl rfl
      obtain ⟨x796, h797, hF⟩ := ltt_ hF
      refine x_val (v := .int .u64 x796) hA (rv_i h797 (r_add rfl (hA.ev rfl) (hA.ev rfl))) (fun ac hA => ?_) rfl rfl rfl
      refine x_assign hA (fun ac hA => ?_) rfl rfl rfl rfl rfl
      refine wpList_nil ?_
      refine hK786 _ _ ?_
      refine wp_seq_k fun K798 hK798 => ?_
      refine wp_reg ?_
      refine x_move hA (fun ac hA => ?_) rfl rfl rfl rfl rfl
      refine x_val hA (r_ltI rfl (hA.ev rfl) (hA.ev rfl)) (fun ac hA => ?_) rfl rfl rfl
      refine wpList_nil ?_
      refine hK798 _ _ ?_
      refine c_if hA rfl (fun hb799 => ?_) fun hb799 => ?_
      · replace hF := ift hb799 hF
        refine wp_seq_k fun K800 hK800 => ?_
        refine wp_seq_k fun K801 hK801 => ?_
        have hj2 : ∀ (b804 : Bool), r03_Reader_Uint_j2 y774 x796 b804 = some o766 → ∀ (ac : Act) (w : World), FR 52 [] ac [(0, .pointer (some ⟨g0, 0, none⟩)), (5, .int .u64 x796), (47, .bool b804)] → SH r (blk g0 63 [.slice A776 n777 c778, .int .i64 y774.2.f1] :: L) w → K801 ac w := by
          intro b804 hF ac w hA hS
          unfold r03_Reader_Uint_j2 at hF
          refine hK801 _ _ ?_
          refine c_if hA rfl (fun hb805 => ?_) fun hb805 => ?_
          · replace hF := ift hb805 hF
            refine wp_exit ?_
            cases hF
            exact hx766_0 y774.2.f0 y774.2.f1 (T766_ _ rfl) A776 n777 c778 h779 ac w (hA.sub _ rfl) hS
          replace hF := iff' hb805 hF
          refine wp_skip ?_
          refine hK800 _ _ ?_
          refine wp_seq_k fun K806 hK806 => ?_
          refine wp_reg ?_
          refine x_move hA (fun ac hA => ?_) rfl rfl rfl rfl rfl
          refine x_assign hA (fun ac hA => ?_) rfl rfl rfl rfl rfl
          refine wpList_nil ?_
          refine hK806 _ _ ?_
          refine wp_ret ?_
          replace hS := SH.pure_ h779 hS
          replace hS := hS.pk 1
          replace hS := obj63_mk (x := y774.2) hS
          cases hF
          have ht := T766_ _ rfl
          subst ht
          replace hF := hR766
          replace hF : some (x796, y774.2) = some y := hF
          cases hF
          refine hQ _ _ ?_
          refine lv Tryd.results52 hA rfl ?_
          exact ⟨rfl, hS⟩
        refine wp_reg ?_
        refine x_move hA (fun ac hA => ?_) rfl rfl rfl rfl rfl
        refine x_val hA (r_gtI rfl (hA.ev rfl) (hA.ev rfl)) (fun ac hA => ?_) rfl rfl rfl
        refine x_move hA (fun ac hA => ?_) rfl rfl rfl rfl rfl
        refine bcase (b := decide (0 < x705)) (fun hb807 => ?_) fun hb807 => ?_
        · replace hF := ift hb807 hF
          refine x_on hb807 hA ?_ rfl rfl rfl
          refine x_move hA (fun ac hA => ?_) rfl rfl rfl rfl rfl
          refine x_on hb807 hA ?_ rfl rfl rfl
          refine x_val hA (r_eqI rfl (hA.ev rfl) (hA.ev rfl)) (fun ac hA => ?_) rfl rfl rfl
          refine x_pickt hb807 hA (fun ac hA => ?_) rfl rfl rfl rfl rfl rfl
          refine x_move hA (fun ac hA => ?_) rfl rfl rfl rfl rfl
          refine bcase (b := y774.1 == 0) (fun hb808 => ?_) fun hb808 => ?_
          · replace hF := ift hb808 hF
            refine x_off hb808 hA (fun ac hA => ?_) rfl rfl rfl rfl rfl
            refine x_off hb808 hA (fun ac hA => ?_) rfl rfl rfl rfl rfl
            refine x_off hb808 hA (fun ac hA => ?_) rfl rfl rfl rfl rfl
            refine x_pickt hb808 hA (fun ac hA => ?_) rfl rfl rfl rfl rfl rfl
            refine wpList_nil ?_
            exact hj2 true hF ac w (hA.sub _ rfl) hS
          replace hF := iff' hb808 hF
          refine x_on hb808 hA ?_ rfl rfl rfl
          refine x_move hA (fun ac hA => ?_) rfl rfl rfl rfl rfl
          refine x_on hb808 hA ?_ rfl rfl rfl
          refine x_move hA (fun ac hA => ?_) rfl rfl rfl rfl rfl
          refine x_on hb808 hA ?_ rfl rfl rfl
          refine x_val hA (r_gtI rfl (hA.ev rfl) (hA.ev rfl)) (fun ac hA => ?_) rfl rfl rfl
          refine x_pickf hb808 hA (fun ac hA => ?_) rfl rfl rfl rfl rfl rfl
          refine wpList_nil ?_
          exact hj2 (decide (a1 < x796)) hF ac w (hA.sub _ rfl) hS
        replace hF := iff' hb807 hF
        refine x_off hb807 hA (fun ac hA => ?_) rfl rfl rfl rfl rfl
        refine x_off hb807 hA (fun ac hA => ?_) rfl rfl rfl rfl rfl
        refine x_pickf hb807 hA (fun ac hA => ?_) rfl rfl rfl rfl rfl rfl
        refine x_move hA (fun ac hA => ?_) rfl rfl rfl rfl rfl
        refine x_on rfl hA ?_ rfl rfl rfl
        refine x_move hA (fun ac hA => ?_) rfl rfl rfl rfl rfl
        refine x_on rfl hA ?_ rfl rfl rfl
        refine x_move hA (fun ac hA => ?_) rfl rfl rfl rfl rfl
        refine x_on rfl hA ?_ rfl rfl rfl
        refine x_val hA (r_gtI rfl (hA.ev rfl) (hA.ev rfl)) (fun ac hA => ?_) rfl rfl rfl
        refine x_pickf rfl hA (fun ac hA => ?_) rfl rfl rfl rfl rfl rfl
        refine wpList_nil ?_
        exact hj2 (decide (a1 < x796)) hF ac w (hA.sub _ rfl) hS
      replace hF := iff' hb799 hF
      refine wp_skip ?_
      refine hKx772 _ _ ?_
      refine hK771 _ _ ?_
      refine wp_reg ?_
      refine x_move hA (fun ac hA => ?_) rfl rfl rfl rfl rfl
      obtain ⟨x809, h810, hF⟩ := ltt_ hF
      refine x_val (v := .int .i64 x809) hA (rv_i h810 (r_add rfl (hA.ev rfl) (hA.ev rfl))) (fun ac hA => ?_) rfl rfl rfl
      refine x_assign hA (fun ac hA => ?_) rfl rfl rfl rfl rfl
      refine wpList_nil ?_
      cases hF
      exact ⟨_, N766_ _ rfl, A776, n777, c778, h779, hA.sub _ rfl, hS⟩
    refine wp_reg ?_
    refine x_move hA (fun ac hA => ?_) rfl rfl rfl rfl rfl
    refine x_val hA (r_nilCheck rfl (hA.ev rfl)) (fun ac hA => ?_) rfl rfl rfl
    refine x_fab fa63_1 hA (fun ac hA => ?_) rfl rfl rfl rfl rfl
    refine x_ld Tryd.underlying3 (hS.cell 0 rfl 1 _ rfl) hA (fun ac hA => ?_) rfl rfl rfl rfl rfl rfl
    refine x_val hA (r_ltI rfl (hA.ev rfl) (hA.ev rfl)) (fun ac hA => ?_) rfl rfl rfl
    refine x_move hA (fun ac hA => ?_) rfl rfl rfl rfl rfl
    refine bcase (b := decide (y774.2.f1 < 0)) (fun hb811 => ?_) fun hb811 => ?_
    · replace hF := ift hb811 hF
      refine x_off hb811 hA (fun ac hA => ?_) rfl rfl rfl rfl rfl
      refine x_off hb811 hA (fun ac hA => ?_) rfl rfl rfl rfl rfl
      refine x_off hb811 hA (fun ac hA => ?_) rfl rfl rfl rfl rfl
      refine x_offU hA (fun ac hA => ?_) rfl rfl rfl rfl rfl
      refine x_offU hA (fun ac hA => ?_) rfl rfl rfl rfl rfl
      refine x_off hb811 hA (fun ac hA => ?_) rfl rfl rfl rfl rfl
      refine x_pickt hb811 hA (fun ac hA => ?_) rfl rfl rfl rfl rfl rfl
      refine wpList_nil ?_
      exact hj1 true hF ac w (hA.sub _ rfl) hS
    replace hF := iff' hb811 hF
    refine x_on hb811 hA ?_ rfl rfl rfl
    refine x_move hA (fun ac hA => ?_) rfl rfl rfl rfl rfl
    refine x_on hb811 hA ?_ rfl rfl rfl
    refine x_val hA (r_eqI rfl (hA.ev rfl) (hA.ev rfl)) (fun ac hA => ?_) rfl rfl rfl
    refine x_on hb811 hA ?_ rfl rfl rfl
    refine x_move hA (fun ac hA => ?_) rfl rfl rfl rfl rfl
    refine bcase (b := x705 == 9) (fun hb812 => ?_) fun hb812 => ?_
    · replace hF := ift hb812 hF
      refine x_on hb812 hA ?_ rfl rfl rfl
      refine x_move hA (fun ac hA => ?_) rfl rfl rfl rfl rfl
      refine x_on hb812 hA ?_ rfl rfl rfl
      refine x_val hA (r_gtI rfl (hA.ev rfl) (hA.ev rfl)) (fun ac hA => ?_) rfl rfl rfl
      refine x_on hb811 hA ?_ rfl rfl rfl
      refine x_pickt hb812 hA (fun ac hA => ?_) rfl rfl rfl rfl rfl rfl
      refine x_pickf hb811 hA (fun ac hA => ?_) rfl rfl rfl rfl rfl rfl
      refine wpList_nil ?_
      exact hj1 (decide (1 < y774.1)) hF ac w (hA.sub _ rfl) hS
    replace hF := iff' hb812 hF
    refine x_off hb812 hA (fun ac hA => ?_) rfl rfl rfl rfl rfl
    refine x_off hb812 hA (fun ac hA => ?_) rfl rfl rfl rfl rfl
    refine x_on hb811 hA ?_ rfl rfl rfl
    refine x_pickf hb812 hA (fun ac hA => ?_) rfl rfl rfl rfl rfl rfl
    refine x_pickf hb811 hA (fun ac hA => ?_) rfl rfl rfl rfl rfl rfl
    refine wpList_nil ?_
    exact hj1 false hF ac w (hA.sub _ rfl) hS
  replace hF := iff' hb770 hF
  refine wp_exit ?_
  cases hF
  exact hx766_0 l698 x703 (T766_ _ rfl) A699 n700 c701 h702 ac w (hA.sub _ rfl) hS
set_option maxRecDepth 100000 in
set_option maxHeartbeats 4000000 in
theorem F_r03_Reader_Int {r : World} {L : List HP} {w : World} {Z : Nat → Prop} {wz : World} (a0 : S63) (g0 : Nat) {y : (Int × S63)} (hF : r03_Reader_Int a0 = some y) (qz : Nat) (hZ : L[qz]? = some (zone Z wz)) (hS : SH r (obj63 Z wz g0 a0 :: L) w) :
    Ret Tryd.prog 74 #[.pointer (some ⟨g0, 0, none⟩)] w fun v w' => v = .int .i64 y.1 ∧ SH r (obj63 Z wz g0 y.2 :: L) w' := by
  refine enter Tryd.func74 rfl Tryd.ntmps74 [(0, .pointer (some ⟨g0, 0, none⟩))] rfl (by simp) ?_
  intro ac hA Qf hQ hQn
  unfold r03_Reader_Int at hF
  obtain ⟨A101, n102, c103, hS⟩ := obj63_open hS
  replace hS := hS.pk 1
  have hQ0 := SH.unpure hS
  clear hS
  obtain ⟨h104, hS⟩ := hQ0
  refine wp_seq_k fun K105 hK105 => ?_
  refine wp_reg ?_
  refine x_assign hA (fun ac hA => ?_) rfl rfl rfl rfl rfl
  refine wpList_nil ?_
  refine hK105 _ _ ?_
  refine wp_seq_k fun K106 hK106 => ?_
  refine wp_reg ?_
  refine x_move hA (fun ac hA => ?_) rfl rfl rfl rfl rfl
  replace hS := SH.pure_ h104 hS
  replace hS := hS.pk 1
  replace hS := obj63_mk (x := a0) hS
  obtain ⟨y107, h108, hF⟩ := bnd hF
  refine x_call en52 hA (F_r03_Reader_Uint (L := L) a0 18446744073709551615 g0 h108 (qz + 0) hZ hS) (fun v ac w hR hA => ?_) rfl rfl rfl rfl rfl
  obtain ⟨rfl, hS⟩ := hR
  obtain ⟨A109, n110, c111, hS⟩ := obj63_open hS
  replace hS := hS.pk 1
  have hQ0 := SH.unpure hS
  clear hS
  obtain ⟨h112, hS⟩ := hQ0
  refine x_assign hA (fun ac hA => ?_) rfl rfl rfl rfl rfl
  refine wpList_nil ?_
  refine hK106 _ _ ?_
  refine wp_seq_k fun K113 hK113 => ?_
  refine wp_seq_k fun K114 hK114 => ?_
  refine wp_reg ?_
  refine x_move hA (fun ac hA => ?_) rfl rfl rfl rfl rfl
  obtain ⟨x115, h116, hF⟩ := ltt_ hF
  refine x_val (v := .int .u64 x115) hA (rv_i h116 (r_rem rfl (hA.ev rfl) (hA.ev rfl) (by decide))) (fun ac hA => ?_) rfl rfl rfl
  refine x_val hA (r_eqI rfl (hA.ev rfl) (hA.ev rfl)) (fun ac hA => ?_) rfl rfl rfl
  refine wpList_nil ?_
  refine hK114 _ _ ?_
  refine c_if hA rfl (fun hb117 => ?_) fun hb117 => ?_
  · replace hF := ift hb117 hF
    refine wp_seq_k fun K118 hK118 => ?_
    refine wp_reg ?_
    refine x_move hA (fun ac hA => ?_) rfl rfl rfl rfl rfl
    obtain ⟨x119, h120, hF⟩ := ltt_ hF
    refine x_val (v := .int .u64 x119) hA (rv_i h120 (r_quo rfl (hA.ev rfl) (hA.ev rfl) (by decide))) (fun ac hA => ?_) rfl rfl rfl
    obtain ⟨x121, h122, hF⟩ := ltt_ hF
    refine x_val (v := .int .i64 x121) hA (rv_i h122 (r_convI Tryd.underlying36 Tryd.underlying2 rfl (hA.ev rfl))) (fun ac hA => ?_) rfl rfl rfl
    refine x_val hA (r_neg rfl (hA.ev rfl)) (fun ac hA => ?_) rfl rfl rfl
    obtain ⟨x123, h124, hF⟩ := ltt_ hF
    refine x_val (v := .int .i64 x123) hA (rv_i h124 (r_sub rfl (hA.ev rfl) (hA.ev rfl))) (fun ac hA => ?_) rfl rfl rfl
    refine x_assign hA (fun ac hA => ?_) rfl rfl rfl rfl rfl
    refine wpList_nil ?_
    refine hK118 _ _ ?_
    refine wp_ret ?_
    replace hS := SH.pure_ h112 hS
    replace hS := hS.pk 1
    replace hS := obj63_mk (x := y107.2) hS
    cases hF
    refine hQ _ _ ?_
    refine lv Tryd.results74 hA rfl ?_
    exact ⟨rfl, hS⟩
  replace hF := iff' hb117 hF
  refine wp_skip ?_
  refine hK113 _ _ ?_
  refine wp_seq_k fun K125 hK125 => ?_
  refine wp_reg ?_
  refine x_move hA (fun ac hA => ?_) rfl rfl rfl rfl rfl
  obtain ⟨x126, h127, hF⟩ := ltt_ hF
  refine x_val (v := .int .u64 x126) hA (rv_i h127 (r_quo rfl (hA.ev rfl) (hA.ev rfl) (by decide))) (fun ac hA => ?_) rfl rfl rfl
  obtain ⟨x128, h129, hF⟩ := ltt_ hF
  refine x_val (v := .int .i64 x128) hA (rv_i h129 (r_convI Tryd.underlying36 Tryd.underlying2 rfl (hA.ev rfl))) (fun ac hA => ?_) rfl rfl rfl
  refine x_assign hA (fun ac hA => ?_) rfl rfl rfl rfl rfl
  refine wpList_nil ?_
  refine hK125 _ _ ?_
  refine wp_ret ?_
  replace hS := SH.pure_ h112 hS
  replace hS := hS.pk 1
  replace hS := obj63_mk (x := y107.2) hS
  cases hF
  refine hQ _ _ ?_
  refine lv Tryd.results74 hA rfl ?_
  exact ⟨rfl, hS⟩
set_option maxRecDepth 100000 in
set_option maxHeartbeats 4000000 in
theorem F_r03_Reader_Text {r : World} {L : List HP} {w : World} {Z : Nat → Prop} {wz : World} (a0 : S63) (a1 : Int) (g0 : Nat) {y : ((List UInt8) × S63)} (hF : r03_Reader_Text a0 a1 = some y) (qz : Nat) (hZ : L[qz]? = some (zone Z wz)) (hS : SH r (obj63 Z wz g0 a0 :: L) w) :
    Ret Tryd.prog 22 #[.pointer (some ⟨g0, 0, none⟩), .int .i64 a1] w fun v w' => v = str y.1 ∧ SH r (obj63 Z wz g0 y.2 :: L) w' := by
  refine enter Tryd.func22 rfl Tryd.ntmps22 [(0, .pointer (some ⟨g0, 0, none⟩)), (1, .int .i64 a1)] rfl (by simp) ?_
  intro ac hA Qf hQ hQn
  unfold r03_Reader_Text at hF
  obtain ⟨A101, n102, c103, hS⟩ := obj63_open hS
  replace hS := hS.pk 1
  have hQ0 := SH.unpure hS
  clear hS
  obtain ⟨h104, hS⟩ := hQ0
  refine wp_seq_k fun K105 hK105 => ?_
  refine wp_reg ?_
  refine x_assign hA (fun ac hA => ?_) rfl rfl rfl rfl rfl
  refine wpList_nil ?_
  refine hK105 _ _ ?_
  refine wp_seq_k fun K106 hK106 => ?_
  refine wp_reg ?_
  refine x_move hA (fun ac hA => ?_) rfl rfl rfl rfl rfl
  refine x_move hA (fun ac hA => ?_) rfl rfl rfl rfl rfl
  obtain ⟨x107, h108, hF⟩ := ltt_ hF
  refine x_val (v := .int .u64 x107) hA (rv_i h108 (r_convI Tryd.underlying3 Tryd.underlying36 rfl (hA.ev rfl))) (fun ac hA => ?_) rfl rfl rfl
  replace hS := SH.pure_ h104 hS
  replace hS := hS.pk 1
  replace hS := obj63_mk (x := a0) hS
  obtain ⟨y109, h110, hF⟩ := bnd hF
  refine x_call en52 hA (F_r03_Reader_Uint (L := L) a0 x107 g0 h110 (qz + 0) hZ hS) (fun v ac w hR hA => ?_) rfl rfl rfl rfl rfl
  obtain ⟨rfl, hS⟩ := hR
  obtain ⟨A111, n112, c113, hS⟩ := obj63_open hS
  replace hS := hS.pk 1
  have hQ0 := SH.unpure hS
  clear hS
  obtain ⟨h114, hS⟩ := hQ0
  refine x_assign hA (fun ac hA => ?_) rfl rfl rfl rfl rfl
  refine wpList_nil ?_
  refine hK106 _ _ ?_
  refine wp_seq_k fun K115 hK115 => ?_
  refine wp_seq_k fun K116 hK116 => ?_
  have hj1 : ∀ (b122 : Bool), r03_Reader_Text_j1 y109 b122 = some y → ∀ (ac : Act) (w : World), FR 61 [] ac [(0, .pointer (some ⟨g0, 0, none⟩)), (5, .int .u64 y109.1), (30, .bool b122)] → SH r (blk g0 63 [.slice A111 n112 c113, .int .i64 y109.2.f1] :: L) w → K116 ac w := by
    intro b122 hF ac w hA hS
    unfold r03_Reader_Text_j1 at hF
    refine hK116 _ _ ?_
    refine c_if hA rfl (fun hb123 => ?_) fun hb123 => ?_
    · replace hF := ift hb123 hF
      refine wp_seq_k fun K124 hK124 => ?_
      refine wp_reg ?_
      refine x_move hA (fun ac hA => ?_) rfl rfl rfl rfl rfl
      refine x_val hA (r_nilCheck rfl (hA.ev rfl)) (fun ac hA => ?_) rfl rfl rfl
      refine x_fab fa63_1 hA (fun ac hA => ?_) rfl rfl rfl rfl rfl
      refine x_stb 0 sz3 hA hS rfl (fun  ac w hS hA => ?_) rfl rfl rfl rfl rfl rfl rfl rfl
      refine wpList_nil ?_
      refine hK124 _ _ ?_
      refine wp_seq_k fun K125 hK125 => ?_
      refine wp_reg ?_
      refine x_assign hA (fun ac hA => ?_) rfl rfl rfl rfl rfl
      refine wpList_nil ?_
      refine hK125 _ _ ?_
      refine wp_ret ?_
      replace hS := SH.pure_ h114 hS
      replace hS := hS.pk 1
      replace hS := obj63_mk (x := (⟨y109.2.f0, -1⟩ : S63)) hS
      cases hF
      refine hQ _ _ ?_
      refine lv Tryd.results22 hA rfl ?_
      exact ⟨rfl, hS⟩
    replace hF := iff' hb123 hF
    refine wp_skip ?_
    refine hK115 _ _ ?_
    refine wp_seq_k fun K126 hK126 => ?_
    refine wp_draw [0, 1, 3, 7, 0, 16, 48, 112, 0, 256, 768, 1792, 0, 4096, 16128, 32767, 65535, 131071] [] rfl hA hS (by kernel_rfl) (by kernel_rfl) (by kernel_rfl) (by kernel_rfl) fun w hS => ?_
    obtain ⟨x127, h128, hF⟩ := ltt_ hF
    obtain ⟨x129, h130, hF⟩ := ltt_ hF
    obtain ⟨l131, h132, hF⟩ := bnd hF
    obtain ⟨A135, n136, c137, e134, h133⟩ := imm_lhc h114 h132
    refine ⟨[(0, .pointer (some ⟨g0, 0, none⟩)), (1, .pointer (some ⟨g0, 0, none⟩)), (2, .pointer (some ⟨g0, 0, none⟩)), (3, .slice A111 n112 c113), (4, .pointer (some ⟨g0, 0, none⟩)), (5, .pointer (some ⟨g0, 0, none⟩)), (6, .pointer (some ⟨g0, 1, none⟩)), (7, .int .i64 y109.2.f1), (8, .pointer (some ⟨g0, 0, none⟩)), (9, .pointer (some ⟨g0, 0, none⟩)), (10, .pointer (some ⟨g0, 1, none⟩)), (11, .int .i64 y109.2.f1), (12, .int .u64 y109.1), (13, .int .i64 x127), (14, .int .i64 x129), (15, .slice A135 n136 c137), (16, str (bts l131)), (17, str (bts l131))], ?_⟩
    refine dEnd [0, 1, 2, 3, 4, 5, 6, 7, 8, 9, 10, 11, 12, 13, 14, 15, 16, 17] (by kernel_rfl) ⟨pu rfl rfl [(0, .pointer (some ⟨g0, 0, none⟩))] (fun ac hA => y_move hA rfl rfl) rfl rfl, pu rfl rfl [(34, .pointer (some ⟨g0, 0, none⟩))] (fun ac hA => r_nilCheck rfl (hA.ev rfl)) rfl rfl, pu rfl rfl [(35, .pointer (some ⟨g0, 0, none⟩))] (fun ac hA => y_fab fa63_0 hA rfl rfl) rfl rfl, pu rfl rfl [(36, .pointer (some ⟨g0, 0, none⟩))] (fun ac hA => y_ld Tryd.underlying22 (hS.cell 0 rfl 0 _ rfl) hA rfl rfl rfl) rfl rfl, pu rfl rfl [(0, .pointer (some ⟨g0, 0, none⟩))] (fun ac hA => y_move hA rfl rfl) rfl rfl, pu rfl rfl [(38, .pointer (some ⟨g0, 0, none⟩))] (fun ac hA => r_nilCheck rfl (hA.ev rfl)) rfl rfl, pu rfl rfl [(39, .pointer (some ⟨g0, 0, none⟩))] (fun ac hA => y_fab fa63_1 hA rfl rfl) rfl rfl, pu rfl rfl [(40, .pointer (some ⟨g0, 1, none⟩))] (fun ac hA => y_ld Tryd.underlying3 (hS.cell 0 rfl 1 _ rfl) hA rfl rfl rfl) rfl rfl, pu rfl rfl [(0, .pointer (some ⟨g0, 0, none⟩))] (fun ac hA => y_move hA rfl rfl) rfl rfl, pu rfl rfl [(42, .pointer (some ⟨g0, 0, none⟩))] (fun ac hA => r_nilCheck rfl (hA.ev rfl)) rfl rfl, pu rfl rfl [(43, .pointer (some ⟨g0, 0, none⟩))] (fun ac hA => y_fab fa63_1 hA rfl rfl) rfl rfl, pu rfl rfl [(44, .pointer (some ⟨g0, 1, none⟩))] (fun ac hA => y_ld Tryd.underlying3 (hS.cell 0 rfl 1 _ rfl) hA rfl rfl rfl) rfl rfl, pu rfl rfl [(5, .int .u64 y109.1)] (fun ac hA => y_move hA rfl rfl) rfl rfl, pu rfl rfl [(46, .int .u64 y109.1)] (fun ac hA => (rv_i h128 (r_convI Tryd.underlying36 Tryd.underlying3 rfl (hA.ev rfl)) : RunV _ _ _ _ (.int .i64 x127))) rfl rfl, pu rfl rfl [(45, .int .i64 y109.2.f1), (47, .int .i64 x127)] (fun ac hA => (rv_i h130 (r_add rfl (hA.ev rfl) (hA.ev rfl)) : RunV _ _ _ _ (.int .i64 x129))) rfl rfl, pu rfl rfl [(37, .slice A111 n112 c113), (41, .int .i64 y109.2.f1), (48, .int .i64 x129)] (fun ac hA => (rv_e e134 (r_slice_lh Tryd.underlying22 sz5 rfl (hA.ev rfl) (hA.ev rfl) (hA.ev rfl) (cutq (hS.rdl 1 (h114.rdl qz hZ) rfl) h132).1 (cutq (hS.rdl 1 (h114.rdl qz hZ) rfl) h132).2.1 (cutq (hS.rdl 1 (h114.rdl qz hZ) rfl) h132).2.2.1) : RunV _ _ _ _ (.slice A135 n136 c137))) rfl rfl, pu rfl rfl [(49, .slice A135 n136 c137)] (fun ac hA => y_b2s Tryd.underlying22 Tryd.underlying5 Tryd.underlying9 (hS.rdl 1 (h133.rdl qz hZ) rfl) hA rfl rfl) rfl rfl, pu rfl rfl [(50, str (bts l131))] (fun ac hA => y_assign hA rfl rfl) rfl rfl, trivial⟩ ⟨by kernel_rfl, by kernel_rfl⟩ [(0, .pointer (some ⟨g0, 0, none⟩)), (5, .int .u64 y109.1), (6, str (bts l131))] rfl (fun ac hA => ?_)
    refine hK126 _ _ ?_
    refine wp_seq_k fun K138 hK138 => ?_
    refine wp_reg ?_
    refine x_move hA (fun ac hA => ?_) rfl rfl rfl rfl rfl
    refine x_val hA (r_nilCheck rfl (hA.ev rfl)) (fun ac hA => ?_) rfl rfl rfl
    refine x_fab fa63_1 hA (fun ac hA => ?_) rfl rfl rfl rfl rfl
    refine x_ld Tryd.underlying3 (hS.cell 0 rfl 1 _ rfl) hA (fun ac hA => ?_) rfl rfl rfl rfl rfl rfl
    refine x_move hA (fun ac hA => ?_) rfl rfl rfl rfl rfl
    refine x_val (v := .int .i64 x127) hA (rv_i h128 (r_convI Tryd.underlying36 Tryd.underlying3 rfl (hA.ev rfl))) (fun ac hA => ?_) rfl rfl rfl
    refine x_val (v := .int .i64 x129) hA (rv_i h130 (r_add rfl (hA.ev rfl) (hA.ev rfl))) (fun ac hA => ?_) rfl rfl rfl
    refine x_val hA (r_nilCheck rfl (hA.ev rfl)) (fun ac hA => ?_) rfl rfl rfl
    refine x_fab fa63_1 hA (fun ac hA => ?_) rfl rfl rfl rfl rfl
    refine x_stb 0 sz3 hA hS rfl (fun  ac w hS hA => ?_) rfl rfl rfl rfl rfl rfl rfl rfl
    refine wpList_nil ?_
    refine hK138 _ _ ?_
    refine wp_seq_k fun K139 hK139 => ?_
    refine wp_reg ?_
    refine x_move hA (fun ac hA => ?_) rfl rfl rfl rfl rfl
    refine x_assign hA (fun ac hA => ?_) rfl rfl rfl rfl rfl
    refine wpList_nil ?_
    refine hK139 _ _ ?_
    refine wp_ret ?_
    replace hS := SH.pure_ h114 hS
    replace hS := hS.pk 1
    replace hS := obj63_mk (x := (⟨y109.2.f0, x129⟩ : S63)) hS
    cases hF
    refine hQ _ _ ?_
    refine lv Tryd.results22 hA rfl ?_
    exact ⟨rfl, hS⟩
  refine wp_draw [0, 1, 3, 7, 15, 31, 63, 63, 191, 447, 959, 1983, 63, 4159, 12351, 28735, 65471, 131007, 262143, 524287] [] rfl hA hS (by kernel_rfl) (by kernel_rfl) (by kernel_rfl) (by kernel_rfl) fun w hS => ?_
  refine bcase (b := decide (y109.2.f1 < 0)) (fun hb140 => ?_) fun hb140 => ?_
  · replace hF := ift hb140 hF
    refine ⟨[(0, .pointer (some ⟨g0, 0, none⟩)), (1, .pointer (some ⟨g0, 0, none⟩)), (2, .pointer (some ⟨g0, 1, none⟩)), (3, .int .i64 y109.2.f1), (4, .bool (decide (y109.2.f1 < 0))), (5, .bool (decide (y109.2.f1 < 0))), (6, undef), (7, undef), (8, undef), (9, undef), (10, undef), (11, undef), (12, undef), (13, undef), (14, undef), (15, undef), (16, undef), (17, undef), (18, undef), (19, .bool true)], ?_⟩
    refine dEnd [0, 1, 2, 3, 4, 5, 6, 7, 8, 9, 10, 11, 12, 13, 14, 15, 16, 17, 18, 19] (by kernel_rfl) ⟨pu rfl rfl [(0, .pointer (some ⟨g0, 0, none⟩))] (fun ac hA => y_move hA rfl rfl) rfl rfl, pu rfl rfl [(11, .pointer (some ⟨g0, 0, none⟩))] (fun ac hA => r_nilCheck rfl (hA.ev rfl)) rfl rfl, pu rfl rfl [(12, .pointer (some ⟨g0, 0, none⟩))] (fun ac hA => y_fab fa63_1 hA rfl rfl) rfl rfl, pu rfl rfl [(13, .pointer (some ⟨g0, 1, none⟩))] (fun ac hA => y_ld Tryd.underlying3 (hS.cell 0 rfl 1 _ rfl) hA rfl rfl rfl) rfl rfl, pu rfl rfl [(14, .int .i64 y109.2.f1)] (fun ac hA => r_ltI rfl (hA.ev rfl) (hA.ev rfl)) rfl rfl, pu rfl rfl [(15, .bool (decide (y109.2.f1 < 0)))] (fun ac hA => y_move hA rfl rfl) rfl rfl, puOff rfl rfl rfl rfl [(5, .int .u64 y109.1), (16, .bool (decide (y109.2.f1 < 0)))] rfl hb140 rfl, puOff rfl rfl rfl rfl [(0, .pointer (some ⟨g0, 0, none⟩)), (16, .bool (decide (y109.2.f1 < 0)))] rfl hb140 rfl, puOff rfl rfl rfl rfl [(16, .bool (decide (y109.2.f1 < 0))), (18, undef)] rfl hb140 rfl, puOff rfl rfl rfl rfl [(16, .bool (decide (y109.2.f1 < 0))), (19, undef)] rfl hb140 rfl, puOff rfl rfl rfl rfl [(16, .bool (decide (y109.2.f1 < 0))), (20, undef)] rfl hb140 rfl, puOff rfl rfl rfl rfl [(16, .bool (decide (y109.2.f1 < 0))), (21, undef)] rfl hb140 rfl, puOff rfl rfl rfl rfl [(0, .pointer (some ⟨g0, 0, none⟩)), (16, .bool (decide (y109.2.f1 < 0)))] rfl hb140 rfl, puOff rfl rfl rfl rfl [(16, .bool (decide (y109.2.f1 < 0))), (23, undef)] rfl hb140 rfl, puOff rfl rfl rfl rfl [(16, .bool (decide (y109.2.f1 < 0))), (24, undef)] rfl hb140 rfl, puOff rfl rfl rfl rfl [(16, .bool (decide (y109.2.f1 < 0))), (25, undef)] rfl hb140 rfl, puOff rfl rfl rfl rfl [(16, .bool (decide (y109.2.f1 < 0))), (22, undef), (26, undef)] rfl hb140 rfl, puOff rfl rfl rfl rfl [(16, .bool (decide (y109.2.f1 < 0))), (27, undef)] rfl hb140 rfl, puOff rfl rfl rfl rfl [(16, .bool (decide (y109.2.f1 < 0))), (17, undef), (28, undef)] rfl hb140 rfl, pu rfl rfl [(16, .bool (decide (y109.2.f1 < 0))), (29, undef)] (fun ac hA => y_pickt hb140 hA rfl rfl rfl) rfl rfl, trivial⟩ ⟨by kernel_rfl, by kernel_rfl⟩ [(0, .pointer (some ⟨g0, 0, none⟩)), (5, .int .u64 y109.1), (30, .bool true)] rfl (fun ac hA => ?_)
    exact hj1 true hF ac w (hA.sub _ rfl) hS
  replace hF := iff' hb140 hF
  obtain ⟨x141, h142, hF⟩ := ltt_ hF
  obtain ⟨x143, h144, hF⟩ := ltt_ hF
  refine ⟨[(0, .pointer (some ⟨g0, 0, none⟩)), (1, .pointer (some ⟨g0, 0, none⟩)), (2, .pointer (some ⟨g0, 1, none⟩)), (3, .int .i64 y109.2.f1), (4, .bool (decide (y109.2.f1 < 0))), (5, .bool (decide (y109.2.f1 < 0))), (6, .int .u64 y109.1), (7, .pointer (some ⟨g0, 0, none⟩)), (8, .pointer (some ⟨g0, 0, none⟩)), (9, .pointer (some ⟨g0, 0, none⟩)), (10, .slice A111 n112 c113), (11, .int .i64 (y109.2.f0.length : Int)), (12, .pointer (some ⟨g0, 0, none⟩)), (13, .pointer (some ⟨g0, 0, none⟩)), (14, .pointer (some ⟨g0, 1, none⟩)), (15, .int .i64 y109.2.f1), (16, .int .i64 x141), (17, .int .u64 x143), (18, .bool (decide (x143 < y109.1))), (19, .bool (decide (x143 < y109.1)))], ?_⟩
  refine dEnd [0, 1, 2, 3, 4, 5, 6, 7, 8, 9, 10, 11, 12, 13, 14, 15, 16, 17, 18, 19] (by kernel_rfl) ⟨pu rfl rfl [(0, .pointer (some ⟨g0, 0, none⟩))] (fun ac hA => y_move hA rfl rfl) rfl rfl, pu rfl rfl [(11, .pointer (some ⟨g0, 0, none⟩))] (fun ac hA => r_nilCheck rfl (hA.ev rfl)) rfl rfl, pu rfl rfl [(12, .pointer (some ⟨g0, 0, none⟩))] (fun ac hA => y_fab fa63_1 hA rfl rfl) rfl rfl, pu rfl rfl [(13, .pointer (some ⟨g0, 1, none⟩))] (fun ac hA => y_ld Tryd.underlying3 (hS.cell 0 rfl 1 _ rfl) hA rfl rfl rfl) rfl rfl, pu rfl rfl [(14, .int .i64 y109.2.f1)] (fun ac hA => r_ltI rfl (hA.ev rfl) (hA.ev rfl)) rfl rfl, pu rfl rfl [(15, .bool (decide (y109.2.f1 < 0)))] (fun ac hA => y_move hA rfl rfl) rfl rfl, puOn rfl rfl rfl rfl [(5, .int .u64 y109.1), (16, .bool (decide (y109.2.f1 < 0)))] rfl hb140 (fun ac hA => y_move hA rfl rfl) rfl, puOn rfl rfl rfl rfl [(0, .pointer (some ⟨g0, 0, none⟩)), (16, .bool (decide (y109.2.f1 < 0)))] rfl hb140 (fun ac hA => y_move hA rfl rfl) rfl, puOn rfl rfl rfl rfl [(16, .bool (decide (y109.2.f1 < 0))), (18, .pointer (some ⟨g0, 0, none⟩))] rfl hb140 (fun ac hA => r_nilCheck rfl (hA.ev rfl)) rfl, puOn rfl rfl rfl rfl [(16, .bool (decide (y109.2.f1 < 0))), (19, .pointer (some ⟨g0, 0, none⟩))] rfl hb140 (fun ac hA => y_fab fa63_0 hA rfl rfl) rfl, puOn rfl rfl rfl rfl [(16, .bool (decide (y109.2.f1 < 0))), (20, .pointer (some ⟨g0, 0, none⟩))] rfl hb140 (fun ac hA => y_ld Tryd.underlying22 (hS.cell 0 rfl 0 _ rfl) hA rfl rfl rfl) rfl, puOn rfl rfl rfl rfl [(16, .bool (decide (y109.2.f1 < 0))), (21, .slice A111 n112 c113)] rfl hb140 (fun ac hA => y_len Tryd.underlying22 (hS.rdl 1 (h114.rdl qz hZ) rfl).2.1 hA rfl rfl) rfl, puOn rfl rfl rfl rfl [(0, .pointer (some ⟨g0, 0, none⟩)), (16, .bool (decide (y109.2.f1 < 0)))] rfl hb140 (fun ac hA => y_move hA rfl rfl) rfl, puOn rfl rfl rfl rfl [(16, .bool (decide (y109.2.f1 < 0))), (23, .pointer (some ⟨g0, 0, none⟩))] rfl hb140 (fun ac hA => r_nilCheck rfl (hA.ev rfl)) rfl, puOn rfl rfl rfl rfl [(16, .bool (decide (y109.2.f1 < 0))), (24, .pointer (some ⟨g0, 0, none⟩))] rfl hb140 (fun ac hA => y_fab fa63_1 hA rfl rfl) rfl, puOn rfl rfl rfl rfl [(16, .bool (decide (y109.2.f1 < 0))), (25, .pointer (some ⟨g0, 1, none⟩))] rfl hb140 (fun ac hA => y_ld Tryd.underlying3 (hS.cell 0 rfl 1 _ rfl) hA rfl rfl rfl) rfl, puOn rfl rfl rfl rfl [(16, .bool (decide (y109.2.f1 < 0))), (22, .int .i64 (y109.2.f0.length : Int)), (26, .int .i64 y109.2.f1)] rfl hb140 (fun ac hA => (rv_i h142 (r_sub rfl (hA.ev rfl) (hA.ev rfl)) : RunV _ _ _ _ (.int .i64 x141))) rfl, puOn rfl rfl rfl rfl [(16, .bool (decide (y109.2.f1 < 0))), (27, .int .i64 x141)] rfl hb140 (fun ac hA => (rv_i h144 (r_convI Tryd.underlying3 Tryd.underlying36 rfl (hA.ev rfl)) : RunV _ _ _ _ (.int .u64 x143))) rfl, puOn rfl rfl rfl rfl [(16, .bool (decide (y109.2.f1 < 0))), (17, .int .u64 y109.1), (28, .int .u64 x143)] rfl hb140 (fun ac hA => r_gtI rfl (hA.ev rfl) (hA.ev rfl)) rfl, pu rfl rfl [(16, .bool (decide (y109.2.f1 < 0))), (29, .bool (decide (x143 < y109.1)))] (fun ac hA => y_pickf hb140 hA rfl rfl rfl) rfl rfl, trivial⟩ ⟨by kernel_rfl, by kernel_rfl⟩ [(0, .pointer (some ⟨g0, 0, none⟩)), (5, .int .u64 y109.1), (30, .bool (decide (x143 < y109.1)))] rfl (fun ac hA => ?_)
  exact hj1 (decide (x143 < y109.1)) hF ac w (hA.sub _ rfl) hS
set_option maxRecDepth 100000 in
set_option maxHeartbeats 4000000 in
theorem F_r03_Reader_Ints {r : World} {L : List HP} {w : World} {Z : Nat → Prop} {wz : World} (a0 : S63) (g0 : Nat) {y : ((List Int) × S63)} (hF : r03_Reader_Ints a0 = some y) (qz : Nat) (hZ : L[qz]? = some (zone Z wz)) (hS : SH r (obj63 Z wz g0 a0 :: L) w) :
    Ret Tryd.prog 53 #[.pointer (some ⟨g0, 0, none⟩)] w fun v w' => ∃ (B0 : Option Addr) (m0 : Nat) (d0 : Nat), v = .slice B0 m0 d0 ∧ SH r (own (kI .i64) 2 B0 m0 d0 y.1 :: obj63 Z wz g0 y.2 :: L) w' := by
  refine enter Tryd.func53 rfl Tryd.ntmps53 [(0, .pointer (some ⟨g0, 0, none⟩))] rfl (by simp) ?_
  intro ac hA Qf hQ hQn
  unfold r03_Reader_Ints at hF
  obtain ⟨A101, n102, c103, hS⟩ := obj63_open hS
  replace hS := hS.pk 1
  have hQ0 := SH.unpure hS
  clear hS
  obtain ⟨h104, hS⟩ := hQ0
  refine wp_seq_k fun K105 hK105 => ?_
  refine wp_reg ?_
  refine x_assign hA (fun ac hA => ?_) rfl rfl rfl rfl rfl
  refine wpList_nil ?_
  refine hK105 _ _ ?_
  refine wp_seq_k fun K106 hK106 => ?_
  refine wp_reg ?_
  refine x_move hA (fun ac hA => ?_) rfl rfl rfl rfl rfl
  replace hS := SH.pure_ h104 hS
  replace hS := hS.pk 1
  replace hS := obj63_mk (x := a0) hS
  obtain ⟨y107, h108, hF⟩ := bnd hF
  refine x_call en73 hA (F_r03_Reader_Byte (L := L) a0 g0 h108 (qz + 0) hZ hS) (fun v ac w hR hA => ?_) rfl rfl rfl rfl rfl
  obtain ⟨rfl, hS⟩ := hR
  obtain ⟨A109, n110, c111, hS⟩ := obj63_open hS
  replace hS := hS.pk 1
  have hQ0 := SH.unpure hS
  clear hS
  obtain ⟨h112, hS⟩ := hQ0
  refine x_assign hA (fun ac hA => ?_) rfl rfl rfl rfl rfl
  refine wpList_nil ?_
  refine hK106 _ _ ?_
  refine wp_seq_k fun K113 hK113 => ?_
  refine wp_reg ?_
  refine x_move hA (fun ac hA => ?_) rfl rfl rfl rfl rfl
  replace hS := SH.pure_ h112 hS
  replace hS := hS.pk 1
  replace hS := obj63_mk (x := y107.2) hS
  obtain ⟨y114, h115, hF⟩ := bnd hF
  refine x_call en52 hA (F_r03_Reader_Uint (L := L) y107.2 4096 g0 h115 (qz + 0) hZ hS) (fun v ac w hR hA => ?_) rfl rfl rfl rfl rfl
  obtain ⟨rfl, hS⟩ := hR
  obtain ⟨A116, n117, c118, hS⟩ := obj63_open hS
  replace hS := hS.pk 1
  have hQ0 := SH.unpure hS
  clear hS
  obtain ⟨h119, hS⟩ := hQ0
  obtain ⟨x120, h121, hF⟩ := ltt_ hF
  refine x_val (v := .int .i64 x120) hA (rv_i h121 (r_convI Tryd.underlying36 Tryd.underlying3 rfl (hA.ev rfl))) (fun ac hA => ?_) rfl rfl rfl
  refine x_assign hA (fun ac hA => ?_) rfl rfl rfl rfl rfl
  refine wpList_nil ?_
  refine hK113 _ _ ?_
  refine wp_seq_k fun K122 hK122 => ?_
  refine wp_seq_k fun K123 hK123 => ?_
  have hj1 : ∀ (b125 : Bool), r03_Reader_Ints_j1 y107 y114 x120 b125 = some y → ∀ (ac : Act) (w : World), FR 223 [] ac [(0, .pointer (some ⟨g0, 0, none⟩)), (3, .int .u8 y107.1), (4, .int .i64 x120), (31, .bool b125)] → SH r (blk g0 63 [.slice A116 n117 c118, .int .i64 y114.2.f1] :: L) w → K123 ac w := by
    intro b125 hF ac w hA hS
    unfold r03_Reader_Ints_j1 at hF
    refine hK123 _ _ ?_
    refine c_if hA rfl (fun hb126 => ?_) fun hb126 => ?_
    · replace hF := ift hb126 hF
      refine wp_seq_k fun K127 hK127 => ?_
      refine wp_reg ?_
      refine x_move hA (fun ac hA => ?_) rfl rfl rfl rfl rfl
      refine x_val hA (r_nilCheck rfl (hA.ev rfl)) (fun ac hA => ?_) rfl rfl rfl
      refine x_fab fa63_1 hA (fun ac hA => ?_) rfl rfl rfl rfl rfl
      refine x_stb 0 sz3 hA hS rfl (fun  ac w hS hA => ?_) rfl rfl rfl rfl rfl rfl rfl rfl
      refine wpList_nil ?_
      refine hK127 _ _ ?_
      refine wp_seq_k fun K128 hK128 => ?_
      refine wp_reg ?_
      refine x_assign hA (fun ac hA => ?_) rfl rfl rfl rfl rfl
      refine wpList_nil ?_
      refine hK128 _ _ ?_
      refine wp_ret ?_
      replace hS := SH.nil_own (d := (kI .i64)) (e := 2) hS
      replace hS := SH.pure_ h119 hS
      replace hS := hS.pk 2
      replace hS := obj63_mk (x := (⟨y114.2.f0, -1⟩ : S63)) hS
      replace hS := hS.pk 1
      cases hF
      refine hQ _ _ ?_
      refine lv Tryd.results53 hA rfl ?_
      exact ⟨none, 0, 0, rfl, hS⟩
    replace hF := iff' hb126 hF
    refine wp_skip ?_
    refine hK122 _ _ ?_
    refine wp_seq_k fun K129 hK129 => ?_
    refine wp_reg ?_
    refine x_assign hA (fun ac hA => ?_) rfl rfl rfl rfl rfl
    refine wpList_nil ?_
    refine hK129 _ _ ?_
    refine wp_seq_k fun K130 hK130 => ?_
    refine wp_seq_k fun K16296 hK16296 => ?_
    refine wp_reg ?_
    refine x_move hA (fun ac hA => ?_) rfl rfl rfl rfl rfl
    refine wpList_nil ?_
    refine hK16296 _ _ ?_
    refine wp_block_k fun Kx16297 hKx16297 => ?_
    have hb1 : ∀ (l24374 : (List Int)) (x24379 : Int) (l24380 : (List Int)), r03_Reader_Ints_b1 l24374 x24379 l24380 = some y → ∀ (A24375 : Option Addr) (n24376 : Nat) (c24377 : Nat) (A24381 : Option Addr) (n24382 : Nat) (c24383 : Nat) (h24378 : Imm Z wz (kI .u8) A24375 n24376 c24377 l24374) (ac : Act) (w : World), FR 223 [] ac [(0, .pointer (some ⟨g0, 0, none⟩)), (5, .slice A24381 n24382 c24383)] → SH r (blk g0 63 [.slice A24375 n24376 c24377, .int .i64 x24379] :: own (kI .i64) 2 A24381 n24382 c24383 l24380 :: L) w → Kx16297 ac w := by
      intro l24374 x24379 l24380 hF A24375 n24376 c24377 A24381 n24382 c24383 h24378 ac w hA hS
      unfold r03_Reader_Ints_b1 at hF
      refine hKx16297 _ _ ?_
      refine hK130 _ _ ?_
      refine wp_seq_k fun K24384 hK24384 => ?_
      refine wp_reg ?_
      refine x_move hA (fun ac hA => ?_) rfl rfl rfl rfl rfl
      refine x_assign hA (fun ac hA => ?_) rfl rfl rfl rfl rfl
      refine wpList_nil ?_
      refine hK24384 _ _ ?_
      refine wp_ret ?_
      replace hS := SH.pure_ h24378 hS
      replace hS := hS.pk 1
      replace hS := obj63_mk (x := (⟨l24374, x24379⟩ : S63)) hS
      replace hS := hS.pk 1
      cases hF
      refine hQ _ _ ?_
      refine lv Tryd.results53 hA rfl ?_
      exact ⟨A24381, n24382, c24383, rfl, hS⟩
    refine wp_seq_k fun K24385 hK24385 => ?_
    refine wp_reg ?_
    refine x_val hA (r_eqI rfl (hA.ev rfl) (hA.ev rfl)) (fun ac hA => ?_) rfl rfl rfl
    refine x_assign hA (fun ac hA => ?_) rfl rfl rfl rfl rfl
    refine wpList_nil ?_
    refine hK24385 _ _ ?_
    refine c_if hA rfl (fun hb24386 => ?_) fun hb24386 => ?_
    · replace hF := ift hb24386 hF
      refine wp_seq_k fun K24387 hK24387 => ?_
      refine wp_reg ?_
      refine x_assign hA (fun ac hA => ?_) rfl rfl rfl rfl rfl
      refine wpList_nil ?_
      refine hK24387 _ _ ?_
      refine wp_block_k fun Kx24388 hKx24388 => ?_
      have hb2 : ∀ (l24507 : (List Int)) (x24512 : Int) (l24513 : (List Int)), r03_Reader_Ints_b2 l24507 x24512 l24513 = some y → ∀ (A24508 : Option Addr) (n24509 : Nat) (c24510 : Nat) (A24514 : Option Addr) (n24515 : Nat) (c24516 : Nat) (h24511 : Imm Z wz (kI .u8) A24508 n24509 c24510 l24507) (ac : Act) (w : World), FR 223 [] ac [(0, .pointer (some ⟨g0, 0, none⟩)), (5, .slice A24514 n24515 c24516)] → SH r (blk g0 63 [.slice A24508 n24509 c24510, .int .i64 x24512] :: own (kI .i64) 2 A24514 n24515 c24516 l24513 :: L) w → Kx24388 ac w := by
        intro l24507 x24512 l24513 hF A24508 n24509 c24510 A24514 n24515 c24516 h24511 ac w hA hS
        unfold r03_Reader_Ints_b2 at hF
        refine hKx24388 _ _ ?_
        exact hb1 l24507 x24512 l24513 hF A24508 n24509 c24510 A24514 n24515 c24516 h24511 ac w (hA.sub _ rfl) hS
      obtain ⟨t24611, hl24611, hF⟩ := bnd hF
      have hx24611_7 : ∀ (l24602 : (List Int)) (x24607 : Int) (l24608 : (List Int)), (l24602, x24607, l24608) = t24611 → ∀ (A24603 : Option Addr) (n24604 : Nat) (c24605 : Nat) (A24609 : Option Addr) (n24610 : Nat) (c24611 : Nat) (h24606 : Imm Z wz (kI .u8) A24603 n24604 c24605 l24602) (ac : Act) (w : World), FR 223 [] ac [(0, .pointer (some ⟨g0, 0, none⟩)), (5, .slice A24609 n24610 c24611)] → SH r (blk g0 63 [.slice A24603 n24604 c24605, .int .i64 x24607] :: own (kI .i64) 2 A24609 n24610 c24611 l24608 :: L) w → Kx24388 ac w := by
        intro l24602 x24607 l24608 ht A24603 n24604 c24605 A24609 n24610 c24611 h24606 ac w hA hS
        subst ht
        replace hF : r03_Reader_Ints_x1_7 l24602 x24607 l24608 = some y := hF
        unfold r03_Reader_Ints_x1_7 at hF
        exact hb2 l24602 x24607 l24608 hF A24603 n24604 c24605 A24609 n24610 c24611 h24606 ac w (hA.sub _ rfl) hS
      replace hS := SH.nil_own (d := (kI .i64)) (e := 2) hS
      replace hS := hS.pk 1
      refine wp_loop_fn hl24611 (fun s ac w => ∃ (A24559 : Option Addr) (n24560 : Nat) (c24561 : Nat) (A24565 : Option Addr) (n24566 : Nat) (c24567 : Nat), Imm Z wz (kI .u8) A24559 n24560 c24561 s.1 ∧ FR 223 [] ac [(0, .pointer (some ⟨g0, 0, none⟩)), (4, .int .i64 x120), (5, .slice A24565 n24566 c24567), (6, .int .i64 s.2.2.2)] ∧ SH r (blk g0 63 [.slice A24559 n24560 c24561, .int .i64 s.2.1] :: own (kI .i64) 2 A24565 n24566 c24567 s.2.2.1 :: L) w) ⟨A116, n117, c118, none, 0, 0, h119, hA.sub _ rfl, hS⟩ ?_
      intro N24611 s24611 o24611 hF N24611_ T24611_ ac w hLab
      obtain ⟨l24558, x24563, l24564, x24568⟩ := s24611
      replace hF : r03_Reader_Ints_l1 x120 l24558 x24563 l24564 x24568 = some o24611 := hF
      unfold r03_Reader_Ints_l1 at hF
      try dsimp only at hLab
      obtain ⟨A24559, n24560, c24561, A24565, n24566, c24567, h24562, hA, hS⟩ := hLab
      refine wp_seq_k fun K24613 hK24613 => ?_
      refine wp_seq_k fun K24614 hK24614 => ?_
      have hj2 : ∀ (b24616 : Bool), r03_Reader_Ints_j2 l24558 x24563 l24564 x24568 b24616 = some o24611 → ∀ (ac : Act) (w : World), FR 223 [] ac [(0, .pointer (some ⟨g0, 0, none⟩)), (4, .int .i64 x120), (5, .slice A24565 n24566 c24567), (6, .int .i64 x24568), (159, .bool b24616)] → SH r (blk g0 63 [.slice A24559 n24560 c24561, .int .i64 x24563] :: own (kI .i64) 2 A24565 n24566 c24567 l24564 :: L) w → K24614 ac w := by
        intro b24616 hF ac w hA hS
        unfold r03_Reader_Ints_j2 at hF
        refine hK24614 _ _ ?_
        refine c_if hA rfl (fun hb24617 => ?_) fun hb24617 => ?_
        · replace hF := ift hb24617 hF
          refine wp_skip ?_
          refine hK24613 _ _ ?_
          refine wp_seq_k fun K24618 hK24618 => ?_
          refine wp_block_k fun Kx24619 hKx24619 => ?_
          refine wp_reg ?_
          refine x_move hA (fun ac hA => ?_) rfl rfl rfl rfl rfl
          refine x_move hA (fun ac hA => ?_) rfl rfl rfl rfl rfl
          replace hS := SH.pure_ h24562 hS
          replace hS := hS.pk 1
          replace hS := obj63_mk (x := (⟨l24558, x24563⟩ : S63)) hS
          obtain ⟨y24620, h24621, hF⟩ := bnd hF
          refine x_call en74 hA (F_r03_Reader_Int (L := own (kI .i64) 2 A24565 n24566 c24567 l24564 :: L) (⟨l24558, x24563⟩ : S63) g0 h24621 (qz + 1) hZ hS) (fun v ac w hR hA => ?_) rfl rfl rfl rfl rfl
          obtain ⟨rfl, hS⟩ := hR
          obtain ⟨A24622, n24623, c24624, hS⟩ := obj63_open hS
          replace hS := hS.pk 1
          have hQ0 := SH.unpure hS
          clear hS
          obtain ⟨h24625, hS⟩ := hQ0
          refine x_bsl (d := (kI .i64)) (e := 2) (ps := #[(0, .int .i64 y24620.1)]) (cells := [.int .i64 y24620.1]) (xs := [y24620.1]) (fun w => by kernel_rfl) rfl ⟨[.int .i64 y24620.1], _, rfl, rfl, rfl⟩ hA hS (fun g24626 ac w hS hA => ?_) rfl rfl rfl rfl rfl rfl
          obtain ⟨h24627, hF⟩ := chk_some hF
          have hr := hS.rd 0 rfl
          refine x_app 2 inf2 Tryd.underlying47 hA hS hr.1 hr.2.1 h24627 rfl (fun A24628 n24629 c24630 ac w hS hA => ?_) rfl rfl rfl rfl rfl rfl rfl rfl rfl
          refine x_assign hA (fun ac hA => ?_) rfl rfl rfl rfl rfl
          refine wpList_nil ?_
          refine hKx24619 _ _ ?_
          refine hK24618 _ _ ?_
          refine wp_reg ?_
          refine x_move hA (fun ac hA => ?_) rfl rfl rfl rfl rfl
          obtain ⟨x24631, h24632, hF⟩ := ltt_ hF
          refine x_val (v := .int .i64 x24631) hA (rv_i h24632 (r_add rfl (hA.ev rfl) (hA.ev rfl))) (fun ac hA => ?_) rfl rfl rfl
          refine x_assign hA (fun ac hA => ?_) rfl rfl rfl rfl rfl
          refine wpList_nil ?_
          replace hS := hS.drop 1
          replace hS := hS.pk 1
          cases hF
          exact ⟨_, N24611_ _ rfl, A24622, n24623, c24624, A24628, n24629, c24630, h24625, hA.sub _ rfl, hS⟩
        replace hF := iff' hb24617 hF
        refine wp_exit ?_
        cases hF
        exact hx24611_7 l24558 x24563 l24564 (T24611_ _ rfl) A24559 n24560 c24561 A24565 n24566 c24567 h24562 ac w (hA.sub _ rfl) hS
      refine wp_reg ?_
      refine x_move hA (fun ac hA => ?_) rfl rfl rfl rfl rfl
      refine x_move hA (fun ac hA => ?_) rfl rfl rfl rfl rfl
      refine x_val hA (r_ltI rfl (hA.ev rfl) (hA.ev rfl)) (fun ac hA => ?_) rfl rfl rfl
      refine x_move hA (fun ac hA => ?_) rfl rfl rfl rfl rfl
      refine bcase (b := decide (x24568 < x120)) (fun hb24633 => ?_) fun hb24633 => ?_
      · replace hF := ift hb24633 hF
        refine x_on hb24633 hA ?_ rfl rfl rfl
        refine x_move hA (fun ac hA => ?_) rfl rfl rfl rfl rfl
        refine x_on hb24633 hA ?_ rfl rfl rfl
        refine x_val hA (r_nilCheck rfl (hA.ev rfl)) (fun ac hA => ?_) rfl rfl rfl
        refine x_on hb24633 hA ?_ rfl rfl rfl
        refine x_fab fa63_1 hA (fun ac hA => ?_) rfl rfl rfl rfl rfl
        refine x_on hb24633 hA ?_ rfl rfl rfl
        refine x_ld Tryd.underlying3 (hS.cell 0 rfl 1 _ rfl) hA (fun ac hA => ?_) rfl rfl rfl rfl rfl rfl
        refine x_on hb24633 hA ?_ rfl rfl rfl
        refine x_val hA (r_geI rfl (hA.ev rfl) (hA.ev rfl)) (fun ac hA => ?_) rfl rfl rfl
        refine x_pickt hb24633 hA (fun ac hA => ?_) rfl rfl rfl rfl rfl rfl
        refine wpList_nil ?_
        exact hj2 (decide (0 ≤ x24563)) hF ac w (hA.sub _ rfl) hS
      replace hF := iff' hb24633 hF
      refine x_off hb24633 hA (fun ac hA => ?_) rfl rfl rfl rfl rfl
      refine x_off hb24633 hA (fun ac hA => ?_) rfl rfl rfl rfl rfl
      refine x_off hb24633 hA (fun ac hA => ?_) rfl rfl rfl rfl rfl
      refine x_off hb24633 hA (fun ac hA => ?_) rfl rfl rfl rfl rfl
      refine x_off hb24633 hA (fun ac hA => ?_) rfl rfl rfl rfl rfl
      refine x_pickf hb24633 hA (fun ac hA => ?_) rfl rfl rfl rfl rfl rfl
      refine wpList_nil ?_
      exact hj2 false hF ac w (hA.sub _ rfl) hS
    replace hF := iff' hb24386 hF
    refine wp_seq_k fun K24634 hK24634 => ?_
    refine wp_reg ?_
    refine x_val hA (r_eqI rfl (hA.ev rfl) (hA.ev rfl)) (fun ac hA => ?_) rfl rfl rfl
    refine x_assign hA (fun ac hA => ?_) rfl rfl rfl rfl rfl
    refine wpList_nil ?_
    refine hK24634 _ _ ?_
    refine c_if hA rfl (fun hb24635 => ?_) fun hb24635 => ?_
    · replace hF := ift hb24635 hF
      refine wp_seq_k fun K24636 hK24636 => ?_
      refine wp_reg ?_
      refine x_assign hA (fun ac hA => ?_) rfl rfl rfl rfl rfl
      refine wpList_nil ?_
      refine hK24636 _ _ ?_
      refine wp_seq_k fun K24637 hK24637 => ?_
      refine wp_reg ?_
      refine x_assign hA (fun ac hA => ?_) rfl rfl rfl rfl rfl
      refine wpList_nil ?_
      refine hK24637 _ _ ?_
      refine wp_block_k fun Kx24638 hKx24638 => ?_
      have hb3 : ∀ (l24769 : (List Int)) (x24774 : Int) (l24775 : (List Int)), r03_Reader_Ints_b3 l24769 x24774 l24775 = some y → ∀ (A24770 : Option Addr) (n24771 : Nat) (c24772 : Nat) (A24776 : Option Addr) (n24777 : Nat) (c24778 : Nat) (h24773 : Imm Z wz (kI .u8) A24770 n24771 c24772 l24769) (ac : Act) (w : World), FR 223 [] ac [(0, .pointer (some ⟨g0, 0, none⟩)), (5, .slice A24776 n24777 c24778)] → SH r (blk g0 63 [.slice A24770 n24771 c24772, .int .i64 x24774] :: own (kI .i64) 2 A24776 n24777 c24778 l24775 :: L) w → Kx24638 ac w := by
        intro l24769 x24774 l24775 hF A24770 n24771 c24772 A24776 n24777 c24778 h24773 ac w hA hS
        unfold r03_Reader_Ints_b3 at hF
        refine hKx24638 _ _ ?_
        exact hb1 l24769 x24774 l24775 hF A24770 n24771 c24772 A24776 n24777 c24778 h24773 ac w (hA.sub _ rfl) hS
      obtain ⟨t24882, hl24882, hF⟩ := bnd hF
      have hx24882_9 : ∀ (l24873 : (List Int)) (x24878 : Int) (l24879 : (List Int)), (l24873, x24878, l24879) = t24882 → ∀ (A24874 : Option Addr) (n24875 : Nat) (c24876 : Nat) (A24880 : Option Addr) (n24881 : Nat) (c24882 : Nat) (h24877 : Imm Z wz (kI .u8) A24874 n24875 c24876 l24873) (ac : Act) (w : World), FR 223 [] ac [(0, .pointer (some ⟨g0, 0, none⟩)), (5, .slice A24880 n24881 c24882)] → SH r (blk g0 63 [.slice A24874 n24875 c24876, .int .i64 x24878] :: own (kI .i64) 2 A24880 n24881 c24882 l24879 :: L) w → Kx24638 ac w := by
        intro l24873 x24878 l24879 ht A24874 n24875 c24876 A24880 n24881 c24882 h24877 ac w hA hS
        subst ht
        replace hF : r03_Reader_Ints_x2_9 l24873 x24878 l24879 = some y := hF
        unfold r03_Reader_Ints_x2_9 at hF
        exact hb3 l24873 x24878 l24879 hF A24874 n24875 c24876 A24880 n24881 c24882 h24877 ac w (hA.sub _ rfl) hS
      replace hS := SH.nil_own (d := (kI .i64)) (e := 2) hS
      replace hS := hS.pk 1
      refine wp_loop_fn hl24882 (fun s ac w => ∃ (A24825 : Option Addr) (n24826 : Nat) (c24827 : Nat) (A24831 : Option Addr) (n24832 : Nat) (c24833 : Nat), Imm Z wz (kI .u8) A24825 n24826 c24827 s.1 ∧ FR 223 [] ac [(0, .pointer (some ⟨g0, 0, none⟩)), (4, .int .i64 x120), (5, .slice A24831 n24832 c24833), (7, .int .i64 s.2.2.2.1), (8, .int .i64 s.2.2.2.2)] ∧ SH r (blk g0 63 [.slice A24825 n24826 c24827, .int .i64 s.2.1] :: own (kI .i64) 2 A24831 n24832 c24833 s.2.2.1 :: L) w) ⟨A116, n117, c118, none, 0, 0, h119, hA.sub _ rfl, hS⟩ ?_
      intro N24882 s24882 o24882 hF N24882_ T24882_ ac w hLab
      obtain ⟨l24824, x24829, l24830, x24834, x24835⟩ := s24882
      replace hF : r03_Reader_Ints_l2 x120 l24824 x24829 l24830 x24834 x24835 = some o24882 := hF
      unfold r03_Reader_Ints_l2 at hF
      try dsimp only at hLab
      obtain ⟨A24825, n24826, c24827, A24831, n24832, c24833, h24828, hA, hS⟩ := hLab
      refine wp_seq_k fun K24884 hK24884 => ?_
      refine wp_seq_k fun K24885 hK24885 => ?_
      have hj3 : ∀ (b24887 : Bool), r03_Reader_Ints_j3 l24824 x24829 l24830 x24834 x24835 b24887 = some o24882 → ∀ (ac : Act) (w : World), FR 223 [] ac [(0, .pointer (some ⟨g0, 0, none⟩)), (4, .int .i64 x120), (5, .slice A24831 n24832 c24833), (7, .int .i64 x24834), (8, .int .i64 x24835), (178, .bool b24887)] → SH r (blk g0 63 [.slice A24825 n24826 c24827, .int .i64 x24829] :: own (kI .i64) 2 A24831 n24832 c24833 l24830 :: L) w → K24885 ac w := by
        intro b24887 hF ac w hA hS
        unfold r03_Reader_Ints_j3 at hF
        refine hK24885 _ _ ?_
        refine c_if hA rfl (fun hb24888 => ?_) fun hb24888 => ?_
        · replace hF := ift hb24888 hF
          refine wp_skip ?_
          refine hK24884 _ _ ?_
          refine wp_seq_k fun K24889 hK24889 => ?_
          refine wp_block_k fun Kx24890 hKx24890 => ?_
          refine wp_seq_k fun K24891 hK24891 => ?_
          refine wp_reg ?_
          refine x_move hA (fun ac hA => ?_) rfl rfl rfl rfl rfl
          refine x_move hA (fun ac hA => ?_) rfl rfl rfl rfl rfl
          replace hS := SH.pure_ h24828 hS
          replace hS := hS.pk 1
          replace hS := obj63_mk (x := (⟨l24824, x24829⟩ : S63)) hS
          obtain ⟨y24892, h24893, hF⟩ := bnd hF
          refine x_call en74 hA (F_r03_Reader_Int (L := own (kI .i64) 2 A24831 n24832 c24833 l24830 :: L) (⟨l24824, x24829⟩ : S63) g0 h24893 (qz + 1) hZ hS) (fun v ac w hR hA => ?_) rfl rfl rfl rfl rfl
          obtain ⟨rfl, hS⟩ := hR
          obtain ⟨A24894, n24895, c24896, hS⟩ := obj63_open hS
          replace hS := hS.pk 1
          have hQ0 := SH.unpure hS
          clear hS
          obtain ⟨h24897, hS⟩ := hQ0
          obtain ⟨x24898, h24899, hF⟩ := ltt_ hF
          refine x_val (v := .int .i64 x24898) hA (rv_i h24899 (r_add rfl (hA.ev rfl) (hA.ev rfl))) (fun ac hA => ?_) rfl rfl rfl
          refine x_assign hA (fun ac hA => ?_) rfl rfl rfl rfl rfl
          refine wpList_nil ?_
          refine hK24891 _ _ ?_
          refine wp_reg ?_
          refine x_move hA (fun ac hA => ?_) rfl rfl rfl rfl rfl
          refine x_move hA (fun ac hA => ?_) rfl rfl rfl rfl rfl
          refine x_bsl (d := (kI .i64)) (e := 2) (ps := #[(0, .int .i64 x24898)]) (cells := [.int .i64 x24898]) (xs := [x24898]) (fun w => by kernel_rfl) rfl ⟨[.int .i64 x24898], _, rfl, rfl, rfl⟩ hA hS (fun g24900 ac w hS hA => ?_) rfl rfl rfl rfl rfl rfl
          obtain ⟨h24901, hF⟩ := chk_some hF
          have hr := hS.rd 0 rfl
          refine x_app 2 inf2 Tryd.underlying47 hA hS hr.1 hr.2.1 h24901 rfl (fun A24902 n24903 c24904 ac w hS hA => ?_) rfl rfl rfl rfl rfl rfl rfl rfl rfl
          refine x_assign hA (fun ac hA => ?_) rfl rfl rfl rfl rfl
          refine wpList_nil ?_
          refine hKx24890 _ _ ?_
          refine hK24889 _ _ ?_
          refine wp_reg ?_
          refine x_move hA (fun ac hA => ?_) rfl rfl rfl rfl rfl
          obtain ⟨x24905, h24906, hF⟩ := ltt_ hF
          refine x_val (v := .int .i64 x24905) hA (rv_i h24906 (r_add rfl (hA.ev rfl) (hA.ev rfl))) (fun ac hA => ?_) rfl rfl rfl
          refine x_assign hA (fun ac hA => ?_) rfl rfl rfl rfl rfl
          refine wpList_nil ?_
          replace hS := hS.drop 1
          replace hS := hS.pk 1
          cases hF
          exact ⟨_, N24882_ _ rfl, A24894, n24895, c24896, A24902, n24903, c24904, h24897, hA.sub _ rfl, hS⟩
        replace hF := iff' hb24888 hF
        refine wp_exit ?_
        cases hF
        exact hx24882_9 l24824 x24829 l24830 (T24882_ _ rfl) A24825 n24826 c24827 A24831 n24832 c24833 h24828 ac w (hA.sub _ rfl) hS
      refine wp_reg ?_
      refine x_move hA (fun ac hA => ?_) rfl rfl rfl rfl rfl
      refine x_move hA (fun ac hA => ?_) rfl rfl rfl rfl rfl
      refine x_val hA (r_ltI rfl (hA.ev rfl) (hA.ev rfl)) (fun ac hA => ?_) rfl rfl rfl
      refine x_move hA (fun ac hA => ?_) rfl rfl rfl rfl rfl
      refine bcase (b := decide (x24835 < x120)) (fun hb24907 => ?_) fun hb24907 => ?_
      · replace hF := ift hb24907 hF
        refine x_on hb24907 hA ?_ rfl rfl rfl
        refine x_move hA (fun ac hA => ?_) rfl rfl rfl rfl rfl
        refine x_on hb24907 hA ?_ rfl rfl rfl
        refine x_val hA (r_nilCheck rfl (hA.ev rfl)) (fun ac hA => ?_) rfl rfl rfl
        refine x_on hb24907 hA ?_ rfl rfl rfl
        refine x_fab fa63_1 hA (fun ac hA => ?_) rfl rfl rfl rfl rfl
        refine x_on hb24907 hA ?_ rfl rfl rfl
        refine x_ld Tryd.underlying3 (hS.cell 0 rfl 1 _ rfl) hA (fun ac hA => ?_) rfl rfl rfl rfl rfl rfl
        refine x_on hb24907 hA ?_ rfl rfl rfl
        refine x_val hA (r_geI rfl (hA.ev rfl) (hA.ev rfl)) (fun ac hA => ?_) rfl rfl rfl
        refine x_pickt hb24907 hA (fun ac hA => ?_) rfl rfl rfl rfl rfl rfl
        refine wpList_nil ?_
        exact hj3 (decide (0 ≤ x24829)) hF ac w (hA.sub _ rfl) hS
      replace hF := iff' hb24907 hF
      refine x_off hb24907 hA (fun ac hA => ?_) rfl rfl rfl rfl rfl
      refine x_off hb24907 hA (fun ac hA => ?_) rfl rfl rfl rfl rfl
      refine x_off hb24907 hA (fun ac hA => ?_) rfl rfl rfl rfl rfl
      refine x_off hb24907 hA (fun ac hA => ?_) rfl rfl rfl rfl rfl
      refine x_off hb24907 hA (fun ac hA => ?_) rfl rfl rfl rfl rfl
      refine x_pickf hb24907 hA (fun ac hA => ?_) rfl rfl rfl rfl rfl rfl
      refine wpList_nil ?_
      exact hj3 false hF ac w (hA.sub _ rfl) hS
    replace hF := iff' hb24635 hF
    refine wp_seq_k fun K24908 hK24908 => ?_
    refine wp_reg ?_
    refine x_val hA (r_eqI rfl (hA.ev rfl) (hA.ev rfl)) (fun ac hA => ?_) rfl rfl rfl
    refine x_assign hA (fun ac hA => ?_) rfl rfl rfl rfl rfl
    refine wpList_nil ?_
    refine hK24908 _ _ ?_
    refine c_if hA rfl (fun hb24909 => ?_) fun hb24909 => ?_
    · replace hF := ift hb24909 hF
      refine wp_block_k fun Kx24910 hKx24910 => ?_
      have hb4 : ∀ (l25830 : (List Int)) (x25835 : Int) (l25836 : (List Int)), r03_Reader_Ints_b4 l25830 x25835 l25836 = some y → ∀ (A25831 : Option Addr) (n25832 : Nat) (c25833 : Nat) (A25837 : Option Addr) (n25838 : Nat) (c25839 : Nat) (h25834 : Imm Z wz (kI .u8) A25831 n25832 c25833 l25830) (ac : Act) (w : World), FR 223 [] ac [(0, .pointer (some ⟨g0, 0, none⟩)), (5, .slice A25837 n25838 c25839)] → SH r (blk g0 63 [.slice A25831 n25832 c25833, .int .i64 x25835] :: own (kI .i64) 2 A25837 n25838 c25839 l25836 :: L) w → Kx24910 ac w := by
        intro l25830 x25835 l25836 hF A25831 n25832 c25833 A25837 n25838 c25839 h25834 ac w hA hS
        unfold r03_Reader_Ints_b4 at hF
        refine hKx24910 _ _ ?_
        exact hb1 l25830 x25835 l25836 hF A25831 n25832 c25833 A25837 n25838 c25839 h25834 ac w (hA.sub _ rfl) hS
      obtain ⟨t26467, hl26467, hF⟩ := bnd hF
      have hx26467_11 : ∀ (l26458 : (List Int)) (x26463 : Int) (l26464 : (List Int)), (l26458, x26463, l26464) = t26467 → ∀ (A26459 : Option Addr) (n26460 : Nat) (c26461 : Nat) (A26465 : Option Addr) (n26466 : Nat) (c26467 : Nat) (h26462 : Imm Z wz (kI .u8) A26459 n26460 c26461 l26458) (ac : Act) (w : World), FR 223 [] ac [(0, .pointer (some ⟨g0, 0, none⟩)), (5, .slice A26465 n26466 c26467)] → SH r (blk g0 63 [.slice A26459 n26460 c26461, .int .i64 x26463] :: own (kI .i64) 2 A26465 n26466 c26467 l26464 :: L) w → Kx24910 ac w := by
        intro l26458 x26463 l26464 ht A26459 n26460 c26461 A26465 n26466 c26467 h26462 ac w hA hS
        subst ht
        replace hF : r03_Reader_Ints_x3_11 l26458 x26463 l26464 = some y := hF
        unfold r03_Reader_Ints_x3_11 at hF
        exact hb4 l26458 x26463 l26464 hF A26459 n26460 c26461 A26465 n26466 c26467 h26462 ac w (hA.sub _ rfl) hS
      replace hS := SH.nil_own (d := (kI .i64)) (e := 2) hS
      replace hS := hS.pk 1
      refine wp_loop_fn hl26467 (fun s ac w => ∃ (A26149 : Option Addr) (n26150 : Nat) (c26151 : Nat) (A26155 : Option Addr) (n26156 : Nat) (c26157 : Nat), Imm Z wz (kI .u8) A26149 n26150 c26151 s.1 ∧ FR 223 [] ac [(0, .pointer (some ⟨g0, 0, none⟩)), (4, .int .i64 x120), (5, .slice A26155 n26156 c26157)] ∧ SH r (blk g0 63 [.slice A26149 n26150 c26151, .int .i64 s.2.1] :: own (kI .i64) 2 A26155 n26156 c26157 s.2.2 :: L) w) ⟨A116, n117, c118, none, 0, 0, h119, hA.sub _ rfl, hS⟩ ?_
      intro N26467 s26467 o26467 hF N26467_ T26467_ ac w hLab
      obtain ⟨l26148, x26153, l26154⟩ := s26467
      replace hF : r03_Reader_Ints_l3 x120 l26148 x26153 l26154 = some o26467 := hF
      unfold r03_Reader_Ints_l3 at hF
      try dsimp only at hLab
      obtain ⟨A26149, n26150, c26151, A26155, n26156, c26157, h26152, hA, hS⟩ := hLab
      refine wp_seq_k fun K26469 hK26469 => ?_
      refine wp_seq_k fun K26470 hK26470 => ?_
      have hj4 : ∀ (b26472 : Bool), r03_Reader_Ints_j4 x120 l26148 x26153 l26154 b26472 = some o26467 → ∀ (ac : Act) (w : World), FR 223 [] ac [(0, .pointer (some ⟨g0, 0, none⟩)), (4, .int .i64 x120), (5, .slice A26155 n26156 c26157), (201, .bool b26472)] → SH r (blk g0 63 [.slice A26149 n26150 c26151, .int .i64 x26153] :: own (kI .i64) 2 A26155 n26156 c26157 l26154 :: L) w → K26470 ac w := by
        intro b26472 hF ac w hA hS
        unfold r03_Reader_Ints_j4 at hF
        refine hK26470 _ _ ?_
        refine c_if hA rfl (fun hb26473 => ?_) fun hb26473 => ?_
        · replace hF := ift hb26473 hF
          refine wp_skip ?_
          refine hK26469 _ _ ?_
          refine wp_block_k fun Kx26474 hKx26474 => ?_
          refine wp_seq_k fun K26616 hK26616 => ?_
          refine wp_reg ?_
          refine x_move hA (fun ac hA => ?_) rfl rfl rfl rfl rfl
          replace hS := SH.pure_ h26152 hS
          replace hS := hS.pk 1
          replace hS := obj63_mk (x := (⟨l26148, x26153⟩ : S63)) hS
          obtain ⟨y26617, h26618, hF⟩ := bnd hF
          refine x_call en74 hA (F_r03_Reader_Int (L := own (kI .i64) 2 A26155 n26156 c26157 l26154 :: L) (⟨l26148, x26153⟩ : S63) g0 h26618 (qz + 1) hZ hS) (fun v ac w hR hA => ?_) rfl rfl rfl rfl rfl
          obtain ⟨rfl, hS⟩ := hR
          obtain ⟨A26619, n26620, c26621, hS⟩ := obj63_open hS
          replace hS := hS.pk 1
          have hQ0 := SH.unpure hS
          clear hS
          obtain ⟨h26622, hS⟩ := hQ0
          refine x_assign hA (fun ac hA => ?_) rfl rfl rfl rfl rfl
          refine wpList_nil ?_
          refine hK26616 _ _ ?_
          refine wp_seq_k fun K26623 hK26623 => ?_
          refine wp_reg ?_
          refine x_move hA (fun ac hA => ?_) rfl rfl rfl rfl rfl
          refine x_move hA (fun ac hA => ?_) rfl rfl rfl rfl rfl
          refine x_move hA (fun ac hA => ?_) rfl rfl rfl rfl rfl
          refine x_len Tryd.underlying47 (hS.rd 1 rfl).2.1 hA (fun ac hA => ?_) rfl rfl rfl rfl rfl
          obtain ⟨x26624, h26625, hF⟩ := ltt_ hF
          refine x_val (v := .int .i64 x26624) hA (rv_i h26625 (r_sub rfl (hA.ev rfl) (hA.ev rfl))) (fun ac hA => ?_) rfl rfl rfl
          obtain ⟨x26626, h26627, hF⟩ := ltt_ hF
          refine x_val (v := .int .i64 x26626) hA (rv_i h26627 (r_sub rfl (hA.ev rfl) (hA.ev rfl))) (fun ac hA => ?_) rfl rfl rfl
          obtain ⟨x26628, h26629, hF⟩ := ltt_ hF
          refine x_val (v := .int .u64 x26628) hA (rv_i h26629 (r_convI Tryd.underlying3 Tryd.underlying36 rfl (hA.ev rfl))) (fun ac hA => ?_) rfl rfl rfl
          replace hS := SH.pure_ h26622 hS
          replace hS := hS.pk 1
          replace hS := obj63_mk (x := y26617.2) hS
          obtain ⟨y26630, h26631, hF⟩ := bnd hF
          refine x_call en52 hA (F_r03_Reader_Uint (L := own (kI .i64) 2 A26155 n26156 c26157 l26154 :: L) y26617.2 x26628 g0 h26631 (qz + 1) hZ hS) (fun v ac w hR hA => ?_) rfl rfl rfl rfl rfl
          obtain ⟨rfl, hS⟩ := hR
          obtain ⟨A26632, n26633, c26634, hS⟩ := obj63_open hS
          replace hS := hS.pk 1
          have hQ0 := SH.unpure hS
          clear hS
          obtain ⟨h26635, hS⟩ := hQ0
          obtain ⟨x26636, h26637, hF⟩ := ltt_ hF
          refine x_val (v := .int .i64 x26636) hA (rv_i h26637 (r_convI Tryd.underlying36 Tryd.underlying3 rfl (hA.ev rfl))) (fun ac hA => ?_) rfl rfl rfl
          refine x_assign hA (fun ac hA => ?_) rfl rfl rfl rfl rfl
          refine wpList_nil ?_
          refine hK26623 _ _ ?_
          refine wp_seq_k fun K26638 hK26638 => ?_
          refine wp_reg ?_
          refine x_assign hA (fun ac hA => ?_) rfl rfl rfl rfl rfl
          refine wpList_nil ?_
          refine hK26638 _ _ ?_
          refine wp_block_k fun Kx26639 hKx26639 => ?_
          have hb5 : ∀ (l26696 : (List Int)), r03_Reader_Ints_b5 y26630 l26696 = some o26467 → ∀ (A26697 : Option Addr) (n26698 : Nat) (c26699 : Nat) (ac : Act) (w : World), FR 223 [] ac [(0, .pointer (some ⟨g0, 0, none⟩)), (4, .int .i64 x120), (5, .slice A26697 n26698 c26699)] → SH r (blk g0 63 [.slice A26632 n26633 c26634, .int .i64 y26630.2.f1] :: own (kI .i64) 2 A26697 n26698 c26699 l26696 :: L) w → Kx26639 ac w := by
            intro l26696 hF A26697 n26698 c26699 ac w hA hS
            unfold r03_Reader_Ints_b5 at hF
            refine hKx26639 _ _ ?_
            refine hKx26474 _ _ ?_
            cases hF
            exact ⟨_, N26467_ _ rfl, A26632, n26633, c26634, A26697, n26698, c26699, h26635, hA.sub _ rfl, hS⟩
          obtain ⟨t26742, hl26742, hF⟩ := bnd hF
          have hx26742_13 : ∀ (l26739 : (List Int)), (l26739) = t26742 → ∀ (A26740 : Option Addr) (n26741 : Nat) (c26742 : Nat) (ac : Act) (w : World), FR 223 [] ac [(0, .pointer (some ⟨g0, 0, none⟩)), (4, .int .i64 x120), (5, .slice A26740 n26741 c26742)] → SH r (blk g0 63 [.slice A26632 n26633 c26634, .int .i64 y26630.2.f1] :: own (kI .i64) 2 A26740 n26741 c26742 l26739 :: L) w → Kx26639 ac w := by
            intro l26739 ht A26740 n26741 c26742 ac w hA hS
            subst ht
            replace hF : r03_Reader_Ints_x4_13 y26630 l26739 = some o26467 := hF
            unfold r03_Reader_Ints_x4_13 at hF
            exact hb5 l26739 hF A26740 n26741 c26742 ac w (hA.sub _ rfl) hS
          refine wp_loop_fn hl26742 (fun s ac w => ∃ (A26718 : Option Addr) (n26719 : Nat) (c26720 : Nat), FR 223 [] ac [(0, .pointer (some ⟨g0, 0, none⟩)), (4, .int .i64 x120), (5, .slice A26718 n26719 c26720), (9, .int .i64 y26617.1), (10, .int .i64 x26636), (11, .int .i64 s.2)] ∧ SH r (blk g0 63 [.slice A26632 n26633 c26634, .int .i64 y26630.2.f1] :: own (kI .i64) 2 A26718 n26719 c26720 s.1 :: L) w) ⟨A26155, n26156, c26157, hA.sub _ rfl, hS⟩ ?_
          intro N26742 s26742 o26742 hF N26742_ T26742_ ac w hLab
          obtain ⟨l26717, x26721⟩ := s26742
          replace hF : r03_Reader_Ints_l4 y26617 x26636 l26717 x26721 = some o26742 := hF
          unfold r03_Reader_Ints_l4 at hF
          try dsimp only at hLab
          obtain ⟨A26718, n26719, c26720, hA, hS⟩ := hLab
          refine wp_seq_k fun K26744 hK26744 => ?_
          refine wp_seq_k fun K26745 hK26745 => ?_
          refine wp_reg ?_
          refine x_move hA (fun ac hA => ?_) rfl rfl rfl rfl rfl
          refine x_move hA (fun ac hA => ?_) rfl rfl rfl rfl rfl
          refine x_val hA (r_leI rfl (hA.ev rfl) (hA.ev rfl)) (fun ac hA => ?_) rfl rfl rfl
          refine wpList_nil ?_
          refine hK26745 _ _ ?_
          refine c_if hA rfl (fun hb26746 => ?_) fun hb26746 => ?_
          · replace hF := ift hb26746 hF
            refine wp_skip ?_
            refine hK26744 _ _ ?_
            refine wp_seq_k fun K26747 hK26747 => ?_
            refine wp_block_k fun Kx26748 hKx26748 => ?_
            refine wp_reg ?_
            refine x_move hA (fun ac hA => ?_) rfl rfl rfl rfl rfl
            refine x_move hA (fun ac hA => ?_) rfl rfl rfl rfl rfl
            refine x_bsl (d := (kI .i64)) (e := 2) (ps := #[(0, .int .i64 y26617.1)]) (cells := [.int .i64 y26617.1]) (xs := [y26617.1]) (fun w => by kernel_rfl) rfl ⟨[.int .i64 y26617.1], _, rfl, rfl, rfl⟩ hA hS (fun g26749 ac w hS hA => ?_) rfl rfl rfl rfl rfl rfl
            obtain ⟨h26750, hF⟩ := chk_some hF
            have hr := hS.rd 0 rfl
            refine x_app 2 inf2 Tryd.underlying47 hA hS hr.1 hr.2.1 h26750 rfl (fun A26751 n26752 c26753 ac w hS hA => ?_) rfl rfl rfl rfl rfl rfl rfl rfl rfl
            refine x_assign hA (fun ac hA => ?_) rfl rfl rfl rfl rfl
            refine wpList_nil ?_
            refine hKx26748 _ _ ?_
            refine hK26747 _ _ ?_
            refine wp_reg ?_
            refine x_move hA (fun ac hA => ?_) rfl rfl rfl rfl rfl
            obtain ⟨x26754, h26755, hF⟩ := ltt_ hF
            refine x_val (v := .int .i64 x26754) hA (rv_i h26755 (r_add rfl (hA.ev rfl) (hA.ev rfl))) (fun ac hA => ?_) rfl rfl rfl
            refine x_assign hA (fun ac hA => ?_) rfl rfl rfl rfl rfl
            refine wpList_nil ?_
            replace hS := hS.drop 1
            replace hS := hS.pk 1
            cases hF
            exact ⟨_, N26742_ _ rfl, A26751, n26752, c26753, hA.sub _ rfl, hS⟩
          replace hF := iff' hb26746 hF
          refine wp_exit ?_
          cases hF
          exact hx26742_13 l26717 (T26742_ _ rfl) A26718 n26719 c26720 ac w (hA.sub _ rfl) hS
        replace hF := iff' hb26473 hF
        refine wp_exit ?_
        cases hF
        exact hx26467_11 l26148 x26153 l26154 (T26467_ _ rfl) A26149 n26150 c26151 A26155 n26156 c26157 h26152 ac w (hA.sub _ rfl) hS
      refine wp_reg ?_
      refine x_move hA (fun ac hA => ?_) rfl rfl rfl rfl rfl
      refine x_len Tryd.underlying47 (hS.rd 1 rfl).2.1 hA (fun ac hA => ?_) rfl rfl rfl rfl rfl
      refine x_move hA (fun ac hA => ?_) rfl rfl rfl rfl rfl
      refine x_val hA (r_ltI rfl (hA.ev rfl) (hA.ev rfl)) (fun ac hA => ?_) rfl rfl rfl
      refine x_move hA (fun ac hA => ?_) rfl rfl rfl rfl rfl
      refine bcase (b := decide ((l26154.length : Int) < x120)) (fun hb26756 => ?_) fun hb26756 => ?_
      · replace hF := ift hb26756 hF
        refine x_on hb26756 hA ?_ rfl rfl rfl
        refine x_move hA (fun ac hA => ?_) rfl rfl rfl rfl rfl
        refine x_on hb26756 hA ?_ rfl rfl rfl
        refine x_val hA (r_nilCheck rfl (hA.ev rfl)) (fun ac hA => ?_) rfl rfl rfl
        refine x_on hb26756 hA ?_ rfl rfl rfl
        refine x_fab fa63_1 hA (fun ac hA => ?_) rfl rfl rfl rfl rfl
        refine x_on hb26756 hA ?_ rfl rfl rfl
        refine x_ld Tryd.underlying3 (hS.cell 0 rfl 1 _ rfl) hA (fun ac hA => ?_) rfl rfl rfl rfl rfl rfl
        refine x_on hb26756 hA ?_ rfl rfl rfl
        refine x_val hA (r_geI rfl (hA.ev rfl) (hA.ev rfl)) (fun ac hA => ?_) rfl rfl rfl
        refine x_pickt hb26756 hA (fun ac hA => ?_) rfl rfl rfl rfl rfl rfl
        refine wpList_nil ?_
        exact hj4 (decide (0 ≤ x26153)) hF ac w (hA.sub _ rfl) hS
      replace hF := iff' hb26756 hF
      refine x_off hb26756 hA (fun ac hA => ?_) rfl rfl rfl rfl rfl
      refine x_off hb26756 hA (fun ac hA => ?_) rfl rfl rfl rfl rfl
      refine x_off hb26756 hA (fun ac hA => ?_) rfl rfl rfl rfl rfl
      refine x_off hb26756 hA (fun ac hA => ?_) rfl rfl rfl rfl rfl
      refine x_off hb26756 hA (fun ac hA => ?_) rfl rfl rfl rfl rfl
      refine x_pickf hb26756 hA (fun ac hA => ?_) rfl rfl rfl rfl rfl rfl
      refine wpList_nil ?_
      exact hj4 false hF ac w (hA.sub _ rfl) hS
    replace hF := iff' hb24909 hF
    refine wp_seq_k fun K26757 hK26757 => ?_
    refine wp_seq_k fun K26758 hK26758 => ?_
    refine wp_reg ?_
    refine x_move hA (fun ac hA => ?_) rfl rfl rfl rfl rfl
    refine x_val hA (r_eqI rfl (hA.ev rfl) (hA.ev rfl)) (fun ac hA => ?_) rfl rfl rfl
    refine wpList_nil ?_
    refine hK26758 _ _ ?_
    refine c_if hA rfl (fun hb26759 => ?_) fun hb26759 => ?_
    · replace hF := ift hb26759 hF
      refine wp_exit ?_
      replace hS := SH.nil_own (d := (kI .i64)) (e := 2) hS
      replace hS := hS.pk 1
      exact hb1 y114.2.f0 y114.2.f1 [] hF A116 n117 c118 none 0 0 h119 ac w (hA.sub _ rfl) hS
    replace hF := iff' hb26759 hF
    refine wp_skip ?_
    refine hK26757 _ _ ?_
    refine wp_seq_k fun K26760 hK26760 => ?_
    refine wp_reg ?_
    refine x_move hA (fun ac hA => ?_) rfl rfl rfl rfl rfl
    replace hS := SH.pure_ h119 hS
    replace hS := hS.pk 1
    replace hS := obj63_mk (x := y114.2) hS
    obtain ⟨y26761, h26762, hF⟩ := bnd hF
    refine x_call en74 hA (F_r03_Reader_Int (L := L) y114.2 g0 h26762 (qz + 0) hZ hS) (fun v ac w hR hA => ?_) rfl rfl rfl rfl rfl
    obtain ⟨rfl, hS⟩ := hR
    obtain ⟨A26763, n26764, c26765, hS⟩ := obj63_open hS
    replace hS := hS.pk 1
    have hQ0 := SH.unpure hS
    clear hS
    obtain ⟨h26766, hS⟩ := hQ0
    refine x_assign hA (fun ac hA => ?_) rfl rfl rfl rfl rfl
    refine wpList_nil ?_
    refine hK26760 _ _ ?_
    refine wp_seq_k fun K26767 hK26767 => ?_
    refine wp_reg ?_
    refine x_move hA (fun ac hA => ?_) rfl rfl rfl rfl rfl
    replace hS := SH.pure_ h26766 hS
    replace hS := hS.pk 1
    replace hS := obj63_mk (x := y26761.2) hS
    obtain ⟨y26768, h26769, hF⟩ := bnd hF
    refine x_call en73 hA (F_r03_Reader_Byte (L := L) y26761.2 g0 h26769 (qz + 0) hZ hS) (fun v ac w hR hA => ?_) rfl rfl rfl rfl rfl
    obtain ⟨rfl, hS⟩ := hR
    obtain ⟨A26770, n26771, c26772, hS⟩ := obj63_open hS
    replace hS := hS.pk 1
    have hQ0 := SH.unpure hS
    clear hS
    obtain ⟨h26773, hS⟩ := hQ0
    obtain ⟨x26774, h26775, hF⟩ := ltt_ hF
    refine x_val (v := .int .i64 x26774) hA (rv_i h26775 (r_convI Tryd.underlying5 Tryd.underlying3 rfl (hA.ev rfl))) (fun ac hA => ?_) rfl rfl rfl
    refine x_assign hA (fun ac hA => ?_) rfl rfl rfl rfl rfl
    refine wpList_nil ?_
    refine hK26767 _ _ ?_
    refine wp_seq_k fun K26776 hK26776 => ?_
    refine wp_seq_k fun K26777 hK26777 => ?_
    have hj5 : ∀ (b26788 : Bool), r03_Reader_Ints_j5 x120 y26761 y26768 x26774 b26788 = some y → ∀ (ac : Act) (w : World), FR 223 [] ac [(0, .pointer (some ⟨g0, 0, none⟩)), (4, .int .i64 x120), (5, .slice none 0 0), (12, .int .i64 y26761.1), (13, .int .i64 x26774), (69, .bool b26788)] → SH r (blk g0 63 [.slice A26770 n26771 c26772, .int .i64 y26768.2.f1] :: L) w → K26777 ac w := by
      intro b26788 hF ac w hA hS
      unfold r03_Reader_Ints_j5 at hF
      refine hK26777 _ _ ?_
      refine c_if hA rfl (fun hb26789 => ?_) fun hb26789 => ?_
      · replace hF := ift hb26789 hF
        refine wp_seq_k fun K26790 hK26790 => ?_
        refine wp_reg ?_
        refine x_move hA (fun ac hA => ?_) rfl rfl rfl rfl rfl
        refine x_val hA (r_nilCheck rfl (hA.ev rfl)) (fun ac hA => ?_) rfl rfl rfl
        refine x_fab fa63_1 hA (fun ac hA => ?_) rfl rfl rfl rfl rfl
        refine x_stb 0 sz3 hA hS rfl (fun  ac w hS hA => ?_) rfl rfl rfl rfl rfl rfl rfl rfl
        refine wpList_nil ?_
        refine hK26790 _ _ ?_
        refine wp_seq_k fun K26791 hK26791 => ?_
        refine wp_reg ?_
        refine x_assign hA (fun ac hA => ?_) rfl rfl rfl rfl rfl
        refine wpList_nil ?_
        refine hK26791 _ _ ?_
        refine wp_ret ?_
        replace hS := SH.nil_own (d := (kI .i64)) (e := 2) hS
        replace hS := SH.pure_ h26773 hS
        replace hS := hS.pk 2
        replace hS := obj63_mk (x := (⟨y26768.2.f0, -1⟩ : S63)) hS
        replace hS := hS.pk 1
        cases hF
        refine hQ _ _ ?_
        refine lv Tryd.results53 hA rfl ?_
        exact ⟨none, 0, 0, rfl, hS⟩
      replace hF := iff' hb26789 hF
      refine wp_skip ?_
      refine hK26776 _ _ ?_
      refine wp_seq_k fun K26792 hK26792 => ?_
      refine wp_reg ?_
      refine x_assign hA (fun ac hA => ?_) rfl rfl rfl rfl rfl
      refine wpList_nil ?_
      refine hK26792 _ _ ?_
      refine wp_seq_k fun K26793 hK26793 => ?_
      refine wp_seq_k fun K29458 hK29458 => ?_
      refine wp_reg ?_
      refine x_assign hA (fun ac hA => ?_) rfl rfl rfl rfl rfl
      refine wpList_nil ?_
      refine hK29458 _ _ ?_
      refine wp_block_k fun Kx29459 hKx29459 => ?_
      have hb6 : ∀ (l30788 : (List Int)) (x30792 : Int), r03_Reader_Ints_b6 y26768 l30788 x30792 = some y → ∀ (A30789 : Option Addr) (n30790 : Nat) (c30791 : Nat) (ac : Act) (w : World), FR 223 [] ac [(0, .pointer (some ⟨g0, 0, none⟩)), (5, .slice A30789 n30790 c30791), (14, .int .i64 x30792)] → SH r (blk g0 63 [.slice A26770 n26771 c26772, .int .i64 y26768.2.f1] :: own (kI .i64) 2 A30789 n30790 c30791 l30788 :: L) w → Kx29459 ac w := by
        intro l30788 x30792 hF A30789 n30790 c30791 ac w hA hS
        unfold r03_Reader_Ints_b6 at hF
        refine hKx29459 _ _ ?_
        refine hK26793 _ _ ?_
        refine wp_seq_k fun K30793 hK30793 => ?_
        refine wp_block_k fun Kx30954 hKx30954 => ?_
        have hb7 : r03_Reader_Ints_b7 y26768 l30788 = some y → ∀ (ac : Act) (w : World), FR 223 [] ac [(0, .pointer (some ⟨g0, 0, none⟩)), (5, .slice A30789 n30790 c30791)] → SH r (blk g0 63 [.slice A26770 n26771 c26772, .int .i64 y26768.2.f1] :: own (kI .i64) 2 A30789 n30790 c30791 l30788 :: L) w → Kx30954 ac w := by
          intro hF ac w hA hS
          unfold r03_Reader_Ints_b7 at hF
          refine hKx30954 _ _ ?_
          refine hK30793 _ _ ?_
          refine wp_reg ?_
          refine x_move hA (fun ac hA => ?_) rfl rfl rfl rfl rfl
          refine x_move hA (fun ac hA => ?_) rfl rfl rfl rfl rfl
          refine x_val hA (r_nilCheck rfl (hA.ev rfl)) (fun ac hA => ?_) rfl rfl rfl
          refine x_fab fa63_0 hA (fun ac hA => ?_) rfl rfl rfl rfl rfl
          refine x_ld Tryd.underlying22 (hS.cell 0 rfl 0 _ rfl) hA (fun ac hA => ?_) rfl rfl rfl rfl rfl rfl
          refine x_len Tryd.underlying22 (hS.rdl 2 (h26773.rdl qz hZ) rfl).2.1 hA (fun ac hA => ?_) rfl rfl rfl rfl rfl
          refine x_val hA (r_nilCheck rfl (hA.ev rfl)) (fun ac hA => ?_) rfl rfl rfl
          refine x_fab fa63_1 hA (fun ac hA => ?_) rfl rfl rfl rfl rfl
          refine x_stb 0 sz3 hA hS rfl (fun  ac w hS hA => ?_) rfl rfl rfl rfl rfl rfl rfl rfl
          refine wpList_nil ?_
          exact hb1 y26768.2.f0 (y26768.2.f0.length : Int) l30788 hF A26770 n26771 c26772 A30789 n30790 c30791 h26773 ac w (hA.sub _ rfl) hS
        obtain ⟨t31086, hl31086, hF⟩ := bnd hF
        have hR31086 := hF
        have hx31086_5 : (.inl ()) = t31086 → ∀ (ac : Act) (w : World), FR 223 [] ac [(0, .pointer (some ⟨g0, 0, none⟩)), (5, .slice A30789 n30790 c30791)] → SH r (blk g0 63 [.slice A26770 n26771 c26772, .int .i64 y26768.2.f1] :: own (kI .i64) 2 A30789 n30790 c30791 l30788 :: L) w → Kx30954 ac w := by
          intro ht ac w hA hS
          subst ht
          replace hF : r03_Reader_Ints_x5_5 y26768 l30788 = some y := hF
          unfold r03_Reader_Ints_x5_5 at hF
          exact hb7 hF ac w (hA.sub _ rfl) hS
        refine wp_loop_fn hl31086 (fun s ac w => FR 223 [] ac [(0, .pointer (some ⟨g0, 0, none⟩)), (5, .slice A30789 n30790 c30791), (14, .int .i64 s)] ∧ SH r (blk g0 63 [.slice A26770 n26771 c26772, .int .i64 y26768.2.f1] :: own (kI .i64) 2 A30789 n30790 c30791 l30788 :: L) w) ⟨hA.sub _ rfl, hS⟩ ?_
        intro N31086 s31086 o31086 hF N31086_ T31086_ ac w hLab
        obtain ⟨x31060, rfl⟩ : ∃ q, q = s31086 := ⟨_, rfl⟩
        replace hF : r03_Reader_Ints_l5 y26768 x31060 = some o31086 := hF
        unfold r03_Reader_Ints_l5 at hF
        try dsimp only at hLab
        obtain ⟨hA, hS⟩ := hLab
        refine wp_seq_k fun K31088 hK31088 => ?_
        refine wp_seq_k fun K31089 hK31089 => ?_
        refine wp_reg ?_
        refine x_move hA (fun ac hA => ?_) rfl rfl rfl rfl rfl
        obtain ⟨x31090, h31091, hF⟩ := ltt_ hF
        refine x_val (v := .int .i64 x31090) hA (rv_i h31091 (r_rem rfl (hA.ev rfl) (hA.ev rfl) (by decide))) (fun ac hA => ?_) rfl rfl rfl
        refine x_val hA (r_neI rfl (hA.ev rfl) (hA.ev rfl)) (fun ac hA => ?_) rfl rfl rfl
        refine wpList_nil ?_
        refine hK31089 _ _ ?_
        refine c_if hA rfl (fun hb31092 => ?_) fun hb31092 => ?_
        · replace hF := ift hb31092 hF
          refine wp_skip ?_
          refine hK31088 _ _ ?_
          refine wp_block_k fun Kx31093 hKx31093 => ?_
          refine wp_seq_k fun K31094 hK31094 => ?_
          refine wp_seq_k fun K31095 hK31095 => ?_
          refine wp_draw [0, 1, 3, 7, 0, 16, 48, 112, 0, 256, 1008, 2047, 4095, 0, 8192, 32767, 65535, 131071] [] rfl hA hS (by kernel_rfl) (by kernel_rfl) (by kernel_rfl) (by kernel_rfl) fun w hS => ?_
          obtain ⟨x31096, h31097, hF⟩ := ltt_ hF
          obtain ⟨x31098, h31099, hF⟩ := ltt_ hF
          obtain ⟨x31100, h31101, hF⟩ := bnd hF
          obtain ⟨cs, hV, hc31102⟩ := el (hS.rdl 2 (h26773.rdl qz hZ) rfl) h31101
          obtain rfl := hV
          obtain ⟨h31103, hF⟩ := chk_some hF
          obtain ⟨x31104, h31105, hF⟩ := ltt_ hF
          obtain ⟨x31106, h31107, hF⟩ := ltt_ hF
          refine ⟨[(0, .pointer (some ⟨g0, 0, none⟩)), (1, .pointer (some ⟨g0, 0, none⟩)), (2, .pointer (some ⟨g0, 0, none⟩)), (3, .slice A26770 n26771 c26772), (4, .pointer (some ⟨g0, 0, none⟩)), (5, .pointer (some ⟨g0, 0, none⟩)), (6, .pointer (some ⟨g0, 1, none⟩)), (7, .int .i64 y26768.2.f1), (8, .int .i64 x31060), (9, .int .i64 x31096), (10, .int .i64 x31098), (11, .pointer (some (ea A26770 (x31098.toNat * 1)))), (12, .int .u8 x31100), (13, .int .i64 x31060), (14, .int .i64 x31090), (15, .int .u8 x31104), (16, .int .u8 x31106), (17, .bool (x31106 == 1))], ?_⟩
          refine dEnd [0, 1, 2, 3, 4, 5, 6, 7, 8, 9, 10, 11, 12, 13, 14, 15, 16, 17] (by kernel_rfl) ⟨pu rfl rfl [(0, .pointer (some ⟨g0, 0, none⟩))] (fun ac hA => y_move hA rfl rfl) rfl rfl, pu rfl rfl [(117, .pointer (some ⟨g0, 0, none⟩))] (fun ac hA => r_nilCheck rfl (hA.ev rfl)) rfl rfl, pu rfl rfl [(118, .pointer (some ⟨g0, 0, none⟩))] (fun ac hA => y_fab fa63_0 hA rfl rfl) rfl rfl, pu rfl rfl [(119, .pointer (some ⟨g0, 0, none⟩))] (fun ac hA => y_ld Tryd.underlying22 (hS.cell 0 rfl 0 _ rfl) hA rfl rfl rfl) rfl rfl, pu rfl rfl [(0, .pointer (some ⟨g0, 0, none⟩))] (fun ac hA => y_move hA rfl rfl) rfl rfl, pu rfl rfl [(121, .pointer (some ⟨g0, 0, none⟩))] (fun ac hA => r_nilCheck rfl (hA.ev rfl)) rfl rfl, pu rfl rfl [(122, .pointer (some ⟨g0, 0, none⟩))] (fun ac hA => y_fab fa63_1 hA rfl rfl) rfl rfl, pu rfl rfl [(123, .pointer (some ⟨g0, 1, none⟩))] (fun ac hA => y_ld Tryd.underlying3 (hS.cell 0 rfl 1 _ rfl) hA rfl rfl rfl) rfl rfl, pu rfl rfl [(14, .int .i64 x31060)] (fun ac hA => y_move hA rfl rfl) rfl rfl, pu rfl rfl [(125, .int .i64 x31060)] (fun ac hA => (rv_i h31097 (r_quo rfl (hA.ev rfl) (hA.ev rfl) (by decide)) : RunV _ _ _ _ (.int .i64 x31096))) rfl rfl, pu rfl rfl [(124, .int .i64 y26768.2.f1), (126, .int .i64 x31096)] (fun ac hA => (rv_i h31099 (r_add rfl (hA.ev rfl) (hA.ev rfl)) : RunV _ _ _ _ (.int .i64 x31098))) rfl rfl, pu rfl rfl [(120, .slice A26770 n26771 c26772), (127, .int .i64 x31098)] (fun ac hA => y_ia Tryd.underlying22 sz5 (hS.rdl 2 (h26773.rdl qz hZ) rfl) h31101 hA rfl rfl rfl) rfl rfl, pu rfl rfl [(128, .pointer (some (ea A26770 (x31098.toNat * 1))))] (fun ac hA => y_ld Tryd.underlying5 (hc31102 0 _ rfl) hA rfl rfl rfl) rfl rfl, pu rfl rfl [(14, .int .i64 x31060)] (fun ac hA => y_move hA rfl rfl) rfl rfl, pu rfl rfl [(130, .int .i64 x31060)] (fun ac hA => (rv_i h31091 (r_rem rfl (hA.ev rfl) (hA.ev rfl) (by decide)) : RunV _ _ _ _ (.int .i64 x31090))) rfl rfl, pu rfl rfl [(129, .int .u8 x31100), (131, .int .i64 x31090)] (fun ac hA => (rv_i h31105 (r_shr rfl (hA.ev rfl) (hA.ev rfl) h31103) : RunV _ _ _ _ (.int .u8 x31104))) rfl rfl, pu rfl rfl [(132, .int .u8 x31104)] (fun ac hA => (rv_i h31107 (r_rem rfl (hA.ev rfl) (hA.ev rfl) (by decide)) : RunV _ _ _ _ (.int .u8 x31106))) rfl rfl, pu rfl rfl [(133, .int .u8 x31106)] (fun ac hA => r_eqI rfl (hA.ev rfl) (hA.ev rfl)) rfl rfl, trivial⟩ ⟨by kernel_rfl, by kernel_rfl⟩ [(0, .pointer (some ⟨g0, 0, none⟩)), (5, .slice A30789 n30790 c30791), (14, .int .i64 x31060), (134, .bool (x31106 == 1))] rfl (fun ac hA => ?_)
          refine hK31095 _ _ ?_
          refine c_if hA rfl (fun hb31108 => ?_) fun hb31108 => ?_
          · replace hF := ift hb31108 hF
            refine wp_seq_k fun K31109 hK31109 => ?_
            refine wp_reg ?_
            refine x_move hA (fun ac hA => ?_) rfl rfl rfl rfl rfl
            refine x_val hA (r_nilCheck rfl (hA.ev rfl)) (fun ac hA => ?_) rfl rfl rfl
            refine x_fab fa63_1 hA (fun ac hA => ?_) rfl rfl rfl rfl rfl
            refine x_stb 0 sz3 hA hS rfl (fun  ac w hS hA => ?_) rfl rfl rfl rfl rfl rfl rfl rfl
            refine wpList_nil ?_
            refine hK31109 _ _ ?_
            refine wp_seq_k fun K31110 hK31110 => ?_
            refine wp_reg ?_
            refine x_assign hA (fun ac hA => ?_) rfl rfl rfl rfl rfl
            refine wpList_nil ?_
            refine hK31110 _ _ ?_
            refine wp_ret ?_
            replace hS := SH.nil_own (d := (kI .i64)) (e := 2) hS
            replace hS := SH.pure_ h26773 hS
            replace hS := hS.pk 2
            replace hS := obj63_mk (x := (⟨y26768.2.f0, -1⟩ : S63)) hS
            replace hS := hS.drop 2
            replace hS := hS.pk 1
            cases hF
            have ht := T31086_ _ rfl
            subst ht
            replace hF := hR31086
            replace hF : some ([], (⟨y26768.2.f0, -1⟩ : S63)) = some y := hF
            cases hF
            refine hQ _ _ ?_
            refine lv Tryd.results53 hA rfl ?_
            exact ⟨none, 0, 0, rfl, hS⟩
          replace hF := iff' hb31108 hF
          refine wp_skip ?_
          refine hK31094 _ _ ?_
          refine wp_reg ?_
          refine x_move hA (fun ac hA => ?_) rfl rfl rfl rfl rfl
          obtain ⟨x31111, h31112, hF⟩ := ltt_ hF
          refine x_val (v := .int .i64 x31111) hA (rv_i h31112 (r_add rfl (hA.ev rfl) (hA.ev rfl))) (fun ac hA => ?_) rfl rfl rfl
          refine x_assign hA (fun ac hA => ?_) rfl rfl rfl rfl rfl
          refine wpList_nil ?_
          refine hKx31093 _ _ ?_
          cases hF
          exact ⟨_, N31086_ _ rfl, hA.sub _ rfl, hS⟩
        replace hF := iff' hb31092 hF
        refine wp_exit ?_
        cases hF
        exact hx31086_5 (T31086_ _ rfl) ac w (hA.sub _ rfl) hS
      obtain ⟨t31995, hl31995, hF⟩ := bnd hF
      have hx31995_1 : ∀ (l31991 : (List Int)) (x31995 : Int), (l31991, x31995) = t31995 → ∀ (A31992 : Option Addr) (n31993 : Nat) (c31994 : Nat) (ac : Act) (w : World), FR 223 [] ac [(0, .pointer (some ⟨g0, 0, none⟩)), (5, .slice A31992 n31993 c31994), (14, .int .i64 x31995)] → SH r (blk g0 63 [.slice A26770 n26771 c26772, .int .i64 y26768.2.f1] :: own (kI .i64) 2 A31992 n31993 c31994 l31991 :: L) w → Kx29459 ac w := by
        intro l31991 x31995 ht A31992 n31993 c31994 ac w hA hS
        subst ht
        replace hF : r03_Reader_Ints_x6_1 y26768 l31991 x31995 = some y := hF
        unfold r03_Reader_Ints_x6_1 at hF
        exact hb6 l31991 x31995 hF A31992 n31993 c31994 ac w (hA.sub _ rfl) hS
      replace hS := SH.nil_own (d := (kI .i64)) (e := 2) hS
      replace hS := hS.pk 1
      refine wp_loop_fn hl31995 (fun s ac w => ∃ (A31536 : Option Addr) (n31537 : Nat) (c31538 : Nat), FR 223 [] ac [(0, .pointer (some ⟨g0, 0, none⟩)), (4, .int .i64 x120), (5, .slice A31536 n31537 c31538), (12, .int .i64 y26761.1), (13, .int .i64 x26774), (14, .int .i64 s.2.1), (15, .int .i64 s.2.2)] ∧ SH r (blk g0 63 [.slice A26770 n26771 c26772, .int .i64 y26768.2.f1] :: own (kI .i64) 2 A31536 n31537 c31538 s.1 :: L) w) ⟨none, 0, 0, hA.sub _ rfl, hS⟩ ?_
      intro N31995 s31995 o31995 hF N31995_ T31995_ ac w hLab
      obtain ⟨l31535, x31539, x31540⟩ := s31995
      replace hF : r03_Reader_Ints_l6 x120 y26761 y26768 x26774 l31535 x31539 x31540 = some o31995 := hF
      unfold r03_Reader_Ints_l6 at hF
      try dsimp only at hLab
      obtain ⟨A31536, n31537, c31538, hA, hS⟩ := hLab
      refine wp_seq_k fun K31997 hK31997 => ?_
      refine wp_seq_k fun K31998 hK31998 => ?_
      refine wp_reg ?_
      refine x_move hA (fun ac hA => ?_) rfl rfl rfl rfl rfl
      refine x_move hA (fun ac hA => ?_) rfl rfl rfl rfl rfl
      refine x_val hA (r_ltI rfl (hA.ev rfl) (hA.ev rfl)) (fun ac hA => ?_) rfl rfl rfl
      refine wpList_nil ?_
      refine hK31998 _ _ ?_
      refine c_if hA rfl (fun hb31999 => ?_) fun hb31999 => ?_
      · replace hF := ift hb31999 hF
        refine wp_skip ?_
        refine hK31997 _ _ ?_
        refine wp_seq_k fun K32000 hK32000 => ?_
        refine wp_block_k fun Kx32001 hKx32001 => ?_
        refine wp_seq_k fun K32002 hK32002 => ?_
        refine wp_reg ?_
        refine x_assign hA (fun ac hA => ?_) rfl rfl rfl rfl rfl
        refine wpList_nil ?_
        refine hK32002 _ _ ?_
        refine wp_seq_k fun K32003 hK32003 => ?_
        refine wp_seq_k fun K32217 hK32217 => ?_
        refine wp_reg ?_
        refine x_assign hA (fun ac hA => ?_) rfl rfl rfl rfl rfl
        refine wpList_nil ?_
        refine hK32217 _ _ ?_
        refine wp_block_k fun Kx32218 hKx32218 => ?_
        have hb8 : ∀ (x32323 : Int) (x32324 : Int), r03_Reader_Ints_b8 y26761 l31535 x31540 x32323 x32324 = some o31995 → ∀ (ac : Act) (w : World), FR 223 [] ac [(0, .pointer (some ⟨g0, 0, none⟩)), (4, .int .i64 x120), (5, .slice A31536 n31537 c31538), (12, .int .i64 y26761.1), (13, .int .i64 x26774), (14, .int .i64 x32323), (15, .int .i64 x31540), (16, .int .u64 x32324)] → SH r (blk g0 63 [.slice A26770 n26771 c26772, .int .i64 y26768.2.f1] :: own (kI .i64) 2 A31536 n31537 c31538 l31535 :: L) w → Kx32218 ac w := by
          intro x32323 x32324 hF ac w hA hS
          unfold r03_Reader_Ints_b8 at hF
          refine hKx32218 _ _ ?_
          refine hK32003 _ _ ?_
          refine wp_reg ?_
          refine x_move hA (fun ac hA => ?_) rfl rfl rfl rfl rfl
          refine x_move hA (fun ac hA => ?_) rfl rfl rfl rfl rfl
          obtain ⟨x32325, h32326, hF⟩ := ltt_ hF
          refine x_val (v := .int .i64 x32325) hA (rv_i h32326 (r_convI Tryd.underlying36 Tryd.underlying2 rfl (hA.ev rfl))) (fun ac hA => ?_) rfl rfl rfl
          refine x_move hA (fun ac hA => ?_) rfl rfl rfl rfl rfl
          obtain ⟨x32327, h32328, hF⟩ := ltt_ hF
          refine x_val (v := .int .i64 x32327) hA (rv_i h32328 (r_add rfl (hA.ev rfl) (hA.ev rfl))) (fun ac hA => ?_) rfl rfl rfl
          refine x_bsl (d := (kI .i64)) (e := 2) (ps := #[(0, .int .i64 x32327)]) (cells := [.int .i64 x32327]) (xs := [x32327]) (fun w => by kernel_rfl) rfl ⟨[.int .i64 x32327], _, rfl, rfl, rfl⟩ hA hS (fun g32329 ac w hS hA => ?_) rfl rfl rfl rfl rfl rfl
          obtain ⟨h32330, hF⟩ := chk_some hF
          have hr := hS.rd 0 rfl
          refine x_app 2 inf2 Tryd.underlying47 hA hS hr.1 hr.2.1 h32330 rfl (fun A32331 n32332 c32333 ac w hS hA => ?_) rfl rfl rfl rfl rfl rfl rfl rfl rfl
          refine x_assign hA (fun ac hA => ?_) rfl rfl rfl rfl rfl
          refine wpList_nil ?_
          refine hKx32001 _ _ ?_
          refine hK32000 _ _ ?_
          refine wp_reg ?_
          refine x_move hA (fun ac hA => ?_) rfl rfl rfl rfl rfl
          obtain ⟨x32334, h32335, hF⟩ := ltt_ hF
          refine x_val (v := .int .i64 x32334) hA (rv_i h32335 (r_add rfl (hA.ev rfl) (hA.ev rfl))) (fun ac hA => ?_) rfl rfl rfl
          refine x_assign hA (fun ac hA => ?_) rfl rfl rfl rfl rfl
          refine wpList_nil ?_
          replace hS := hS.drop 1
          replace hS := hS.pk 1
          cases hF
          exact ⟨_, N31995_ _ rfl, A32331, n32332, c32333, hA.sub _ rfl, hS⟩
        obtain ⟨t32407, hl32407, hF⟩ := bnd hF
        have hx32407_3 : ∀ (x32406 : Int) (x32407 : Int), (x32406, x32407) = t32407 → ∀ (ac : Act) (w : World), FR 223 [] ac [(0, .pointer (some ⟨g0, 0, none⟩)), (4, .int .i64 x120), (5, .slice A31536 n31537 c31538), (12, .int .i64 y26761.1), (13, .int .i64 x26774), (14, .int .i64 x32406), (15, .int .i64 x31540), (16, .int .u64 x32407)] → SH r (blk g0 63 [.slice A26770 n26771 c26772, .int .i64 y26768.2.f1] :: own (kI .i64) 2 A31536 n31537 c31538 l31535 :: L) w → Kx32218 ac w := by
          intro x32406 x32407 ht ac w hA hS
          subst ht
          replace hF : r03_Reader_Ints_x7_3 y26761 l31535 x31540 x32406 x32407 = some o31995 := hF
          unfold r03_Reader_Ints_x7_3 at hF
          exact hb8 x32406 x32407 hF ac w (hA.sub _ rfl) hS
        refine wp_loop_fn hl32407 (fun s ac w => FR 223 [] ac [(0, .pointer (some ⟨g0, 0, none⟩)), (4, .int .i64 x120), (5, .slice A31536 n31537 c31538), (12, .int .i64 y26761.1), (13, .int .i64 x26774), (14, .int .i64 s.1), (15, .int .i64 x31540), (16, .int .u64 s.2.1), (17, .int .i64 s.2.2)] ∧ SH r (blk g0 63 [.slice A26770 n26771 c26772, .int .i64 y26768.2.f1] :: own (kI .i64) 2 A31536 n31537 c31538 l31535 :: L) w) ⟨hA.sub _ rfl, hS⟩ ?_
        intro N32407 s32407 o32407 hF N32407_ T32407_ ac w hLab
        obtain ⟨x32369, x32370, x32371⟩ := s32407
        replace hF : r03_Reader_Ints_l7 y26768 x26774 x32369 x32370 x32371 = some o32407 := hF
        unfold r03_Reader_Ints_l7 at hF
        try dsimp only at hLab
        obtain ⟨hA, hS⟩ := hLab
        refine wp_seq_k fun K32409 hK32409 => ?_
        refine wp_seq_k fun K32410 hK32410 => ?_
        refine wp_reg ?_
        refine x_move hA (fun ac hA => ?_) rfl rfl rfl rfl rfl
        refine x_move hA (fun ac hA => ?_) rfl rfl rfl rfl rfl
        refine x_val hA (r_ltI rfl (hA.ev rfl) (hA.ev rfl)) (fun ac hA => ?_) rfl rfl rfl
        refine wpList_nil ?_
        refine hK32410 _ _ ?_
        refine c_if hA rfl (fun hb32411 => ?_) fun hb32411 => ?_
        · replace hF := ift hb32411 hF
          refine wp_skip ?_
          refine hK32409 _ _ ?_
          refine wp_seq_k fun K32412 hK32412 => ?_
          refine wp_block_k fun Kx32413 hKx32413 => ?_
          refine wp_seq_k fun K32414 hK32414 => ?_
          refine wp_draw [0, 0, 2, 6, 14, 0, 32, 96, 224, 0, 512, 2016, 4094, 8190, 0, 16384, 65534, 131070, 262142, 0, 1048574, 2097151, 4194303] [] rfl hA hS (by kernel_rfl) (by kernel_rfl) (by kernel_rfl) (by kernel_rfl) fun w hS => ?_
          obtain ⟨x32415, h32416, hF⟩ := ltt_ hF
          obtain ⟨x32417, h32418, hF⟩ := ltt_ hF
          obtain ⟨x32419, h32420, hF⟩ := bnd hF
          obtain ⟨cs, hV, hc32421⟩ := el (hS.rdl 2 (h26773.rdl qz hZ) rfl) h32420
          obtain rfl := hV
          obtain ⟨x32422, h32423, hF⟩ := ltt_ hF
          obtain ⟨h32424, hF⟩ := chk_some hF
          obtain ⟨x32425, h32426, hF⟩ := ltt_ hF
          obtain ⟨x32427, h32428, hF⟩ := ltt_ hF
          obtain ⟨x32429, h32430, hF⟩ := ltt_ hF
          obtain ⟨h32431, hF⟩ := chk_some hF
          obtain ⟨x32432, h32433, hF⟩ := ltt_ hF
          obtain ⟨x32434, h32435, hF⟩ := ltt_ hF
          refine ⟨[(0, .int .u64 x32370), (1, .pointer (some ⟨g0, 0, none⟩)), (2, .pointer (some ⟨g0, 0, none⟩)), (3, .pointer (some ⟨g0, 0, none⟩)), (4, .slice A26770 n26771 c26772), (5, .pointer (some ⟨g0, 0, none⟩)), (6, .pointer (some ⟨g0, 0, none⟩)), (7, .pointer (some ⟨g0, 1, none⟩)), (8, .int .i64 y26768.2.f1), (9, .int .i64 x32369), (10, .int .i64 x32415), (11, .int .i64 x32417), (12, .pointer (some (ea A26770 (x32417.toNat * 1)))), (13, .int .u8 x32419), (14, .int .i64 x32369), (15, .int .i64 x32422), (16, .int .u8 x32425), (17, .int .u8 x32427), (18, .int .u64 x32429), (19, .int .i64 x32371), (20, .int .u64 x32432), (21, .int .u64 x32434), (22, .int .u64 x32434)], ?_⟩
          refine dEnd [0, 1, 2, 3, 4, 5, 6, 7, 8, 9, 10, 11, 12, 13, 14, 15, 16, 17, 18, 19, 20, 21, 22] (by kernel_rfl) ⟨pu rfl rfl [(16, .int .u64 x32370)] (fun ac hA => y_move hA rfl rfl) rfl rfl, pu rfl rfl [(0, .pointer (some ⟨g0, 0, none⟩))] (fun ac hA => y_move hA rfl rfl) rfl rfl, pu rfl rfl [(84, .pointer (some ⟨g0, 0, none⟩))] (fun ac hA => r_nilCheck rfl (hA.ev rfl)) rfl rfl, pu rfl rfl [(85, .pointer (some ⟨g0, 0, none⟩))] (fun ac hA => y_fab fa63_0 hA rfl rfl) rfl rfl, pu rfl rfl [(86, .pointer (some ⟨g0, 0, none⟩))] (fun ac hA => y_ld Tryd.underlying22 (hS.cell 0 rfl 0 _ rfl) hA rfl rfl rfl) rfl rfl, pu rfl rfl [(0, .pointer (some ⟨g0, 0, none⟩))] (fun ac hA => y_move hA rfl rfl) rfl rfl, pu rfl rfl [(88, .pointer (some ⟨g0, 0, none⟩))] (fun ac hA => r_nilCheck rfl (hA.ev rfl)) rfl rfl, pu rfl rfl [(89, .pointer (some ⟨g0, 0, none⟩))] (fun ac hA => y_fab fa63_1 hA rfl rfl) rfl rfl, pu rfl rfl [(90, .pointer (some ⟨g0, 1, none⟩))] (fun ac hA => y_ld Tryd.underlying3 (hS.cell 0 rfl 1 _ rfl) hA rfl rfl rfl) rfl rfl, pu rfl rfl [(14, .int .i64 x32369)] (fun ac hA => y_move hA rfl rfl) rfl rfl, pu rfl rfl [(92, .int .i64 x32369)] (fun ac hA => (rv_i h32416 (r_quo rfl (hA.ev rfl) (hA.ev rfl) (by decide)) : RunV _ _ _ _ (.int .i64 x32415))) rfl rfl, pu rfl rfl [(91, .int .i64 y26768.2.f1), (93, .int .i64 x32415)] (fun ac hA => (rv_i h32418 (r_add rfl (hA.ev rfl) (hA.ev rfl)) : RunV _ _ _ _ (.int .i64 x32417))) rfl rfl, pu rfl rfl [(87, .slice A26770 n26771 c26772), (94, .int .i64 x32417)] (fun ac hA => y_ia Tryd.underlying22 sz5 (hS.rdl 2 (h26773.rdl qz hZ) rfl) h32420 hA rfl rfl rfl) rfl rfl, pu rfl rfl [(95, .pointer (some (ea A26770 (x32417.toNat * 1))))] (fun ac hA => y_ld Tryd.underlying5 (hc32421 0 _ rfl) hA rfl rfl rfl) rfl rfl, pu rfl rfl [(14, .int .i64 x32369)] (fun ac hA => y_move hA rfl rfl) rfl rfl, pu rfl rfl [(97, .int .i64 x32369)] (fun ac hA => (rv_i h32423 (r_rem rfl (hA.ev rfl) (hA.ev rfl) (by decide)) : RunV _ _ _ _ (.int .i64 x32422))) rfl rfl, pu rfl rfl [(96, .int .u8 x32419), (98, .int .i64 x32422)] (fun ac hA => (rv_i h32426 (r_shr rfl (hA.ev rfl) (hA.ev rfl) h32424) : RunV _ _ _ _ (.int .u8 x32425))) rfl rfl, pu rfl rfl [(99, .int .u8 x32425)] (fun ac hA => (rv_i h32428 (r_rem rfl (hA.ev rfl) (hA.ev rfl) (by decide)) : RunV _ _ _ _ (.int .u8 x32427))) rfl rfl, pu rfl rfl [(100, .int .u8 x32427)] (fun ac hA => (rv_i h32430 (r_convI Tryd.underlying5 Tryd.underlying36 rfl (hA.ev rfl)) : RunV _ _ _ _ (.int .u64 x32429))) rfl rfl, pu rfl rfl [(17, .int .i64 x32371)] (fun ac hA => y_move hA rfl rfl) rfl rfl, pu rfl rfl [(101, .int .u64 x32429), (102, .int .i64 x32371)] (fun ac hA => (rv_i h32433 (r_shl rfl (hA.ev rfl) (hA.ev rfl) h32431) : RunV _ _ _ _ (.int .u64 x32432))) rfl rfl, pu rfl rfl [(83, .int .u64 x32370), (103, .int .u64 x32432)] (fun ac hA => (rv_i h32435 (r_add rfl (hA.ev rfl) (hA.ev rfl)) : RunV _ _ _ _ (.int .u64 x32434))) rfl rfl, pu rfl rfl [(104, .int .u64 x32434)] (fun ac hA => y_assign hA rfl rfl) rfl rfl, trivial⟩ ⟨by kernel_rfl, by kernel_rfl⟩ [(0, .pointer (some ⟨g0, 0, none⟩)), (4, .int .i64 x120), (5, .slice A31536 n31537 c31538), (12, .int .i64 y26761.1), (13, .int .i64 x26774), (14, .int .i64 x32369), (15, .int .i64 x31540), (16, .int .u64 x32434), (17, .int .i64 x32371)] rfl (fun ac hA => ?_)
          refine hK32414 _ _ ?_
          refine wp_reg ?_
          refine x_move hA (fun ac hA => ?_) rfl rfl rfl rfl rfl
          obtain ⟨x32436, h32437, hF⟩ := ltt_ hF
          refine x_val (v := .int .i64 x32436) hA (rv_i h32437 (r_add rfl (hA.ev rfl) (hA.ev rfl))) (fun ac hA => ?_) rfl rfl rfl
          refine x_assign hA (fun ac hA => ?_) rfl rfl rfl rfl rfl
          refine wpList_nil ?_
          refine hKx32413 _ _ ?_
          refine hK32412 _ _ ?_
          refine wp_reg ?_
          refine x_move hA (fun ac hA => ?_) rfl rfl rfl rfl rfl
          obtain ⟨x32438, h32439, hF⟩ := ltt_ hF
          refine x_val (v := .int .i64 x32438) hA (rv_i h32439 (r_add rfl (hA.ev rfl) (hA.ev rfl))) (fun ac hA => ?_) rfl rfl rfl
          refine x_assign hA (fun ac hA => ?_) rfl rfl rfl rfl rfl
          refine wpList_nil ?_
          cases hF
          exact ⟨_, N32407_ _ rfl, hA.sub _ rfl, hS⟩
        replace hF := iff' hb32411 hF
        refine wp_exit ?_
        cases hF
        exact hx32407_3 x32369 x32370 (T32407_ _ rfl) ac w (hA.sub _ rfl) hS
      replace hF := iff' hb31999 hF
      refine wp_exit ?_
      cases hF
      exact hx31995_1 l31535 x31539 (T31995_ _ rfl) A31536 n31537 c31538 ac w (hA.sub _ rfl) hS
    refine wp_draw [0, 1, 3, 7, 15, 31, 63, 127, 255, 511, 1023, 2047, 4095, 8191, 16383, 1023, 33791, 99327, 230399, 524287, 1023, 1023, 3146751, 7341055, 15729663, 33554431, 67108863] [] rfl hA hS (by kernel_rfl) (by kernel_rfl) (by kernel_rfl) (by kernel_rfl) fun w hS => ?_
    refine bcase (b := decide (y26768.2.f1 < 0)) (fun hb32440 => ?_) fun hb32440 => ?_
    · replace hF := ift hb32440 hF
      refine ⟨[(0, .pointer (some ⟨g0, 0, none⟩)), (1, .pointer (some ⟨g0, 0, none⟩)), (2, .pointer (some ⟨g0, 1, none⟩)), (3, .int .i64 y26768.2.f1), (4, .bool (decide (y26768.2.f1 < 0))), (5, .bool (decide (y26768.2.f1 < 0))), (6, undef), (7, undef), (8, .bool true), (9, .bool true), (10, undef), (11, undef), (12, undef), (13, undef), (14, undef), (15, undef), (16, undef), (17, undef), (18, undef), (19, undef), (20, undef), (21, undef), (22, undef), (23, undef), (24, undef), (25, undef), (26, .bool true)], ?_⟩
      refine dEnd [0, 1, 2, 3, 4, 5, 6, 7, 8, 9, 10, 11, 12, 13, 14, 15, 16, 17, 18, 19, 20, 21, 22, 23, 24, 25, 26] (by kernel_rfl) ⟨pu rfl rfl [(0, .pointer (some ⟨g0, 0, none⟩))] (fun ac hA => y_move hA rfl rfl) rfl rfl, pu rfl rfl [(43, .pointer (some ⟨g0, 0, none⟩))] (fun ac hA => r_nilCheck rfl (hA.ev rfl)) rfl rfl, pu rfl rfl [(44, .pointer (some ⟨g0, 0, none⟩))] (fun ac hA => y_fab fa63_1 hA rfl rfl) rfl rfl, pu rfl rfl [(45, .pointer (some ⟨g0, 1, none⟩))] (fun ac hA => y_ld Tryd.underlying3 (hS.cell 0 rfl 1 _ rfl) hA rfl rfl rfl) rfl rfl, pu rfl rfl [(46, .int .i64 y26768.2.f1)] (fun ac hA => r_ltI rfl (hA.ev rfl) (hA.ev rfl)) rfl rfl, pu rfl rfl [(47, .bool (decide (y26768.2.f1 < 0)))] (fun ac hA => y_move hA rfl rfl) rfl rfl, puOff rfl rfl rfl rfl [(13, .int .i64 x26774), (48, .bool (decide (y26768.2.f1 < 0)))] rfl hb32440 rfl, puOff rfl rfl rfl rfl [(48, .bool (decide (y26768.2.f1 < 0))), (49, undef)] rfl hb32440 rfl, pu rfl rfl [(48, .bool (decide (y26768.2.f1 < 0))), (50, undef)] (fun ac hA => y_pickt hb32440 hA rfl rfl rfl) rfl rfl, pu rfl rfl [(51, .bool true)] (fun ac hA => y_move hA rfl rfl) rfl rfl, puOff rfl rfl rfl rfl [(0, .pointer (some ⟨g0, 0, none⟩)), (52, .bool true)] rfl rfl rfl, puOff rfl rfl rfl rfl [(52, .bool true), (53, undef)] rfl rfl rfl, puOff rfl rfl rfl rfl [(52, .bool true), (54, undef)] rfl rfl rfl, puOff rfl rfl rfl rfl [(52, .bool true), (55, undef)] rfl rfl rfl, puOff rfl rfl rfl rfl [(52, .bool true), (56, undef)] rfl rfl rfl, puOff rfl rfl rfl rfl [(0, .pointer (some ⟨g0, 0, none⟩)), (52, .bool true)] rfl rfl rfl, puOff rfl rfl rfl rfl [(52, .bool true), (58, undef)] rfl rfl rfl, puOff rfl rfl rfl rfl [(52, .bool true), (59, undef)] rfl rfl rfl, puOff rfl rfl rfl rfl [(52, .bool true), (60, undef)] rfl rfl rfl, puOff rfl rfl rfl rfl [(52, .bool true), (57, undef), (61, undef)] rfl rfl rfl, puOff rfl rfl rfl rfl [(4, .int .i64 x120), (52, .bool true)] rfl rfl rfl, puOff rfl rfl rfl rfl [(13, .int .i64 x26774), (52, .bool true)] rfl rfl rfl, puOff rfl rfl rfl rfl [(52, .bool true), (63, undef), (64, undef)] rfl rfl rfl, puOff rfl rfl rfl rfl [(52, .bool true), (65, undef)] rfl rfl rfl, puOff rfl rfl rfl rfl [(52, .bool true), (66, undef)] rfl rfl rfl, puOff rfl rfl rfl rfl [(52, .bool true), (62, undef), (67, undef)] rfl rfl rfl, pu rfl rfl [(52, .bool true), (68, undef)] (fun ac hA => y_pickt rfl hA rfl rfl rfl) rfl rfl, trivial⟩ ⟨by kernel_rfl, by kernel_rfl⟩ [(0, .pointer (some ⟨g0, 0, none⟩)), (4, .int .i64 x120), (5, .slice none 0 0), (12, .int .i64 y26761.1), (13, .int .i64 x26774), (69, .bool true)] rfl (fun ac hA => ?_)
      exact hj5 true hF ac w (hA.sub _ rfl) hS
    replace hF := iff' hb32440 hF
    refine bcase (b := decide (64 < x26774)) (fun hb32441 => ?_) fun hb32441 => ?_
    · replace hF := ift hb32441 hF
      refine ⟨[(0, .pointer (some ⟨g0, 0, none⟩)), (1, .pointer (some ⟨g0, 0, none⟩)), (2, .pointer (some ⟨g0, 1, none⟩)), (3, .int .i64 y26768.2.f1), (4, .bool (decide (y26768.2.f1 < 0))), (5, .bool (decide (y26768.2.f1 < 0))), (6, .int .i64 x26774), (7, .bool (decide (64 < x26774))), (8, .bool (decide (64 < x26774))), (9, .bool (decide (64 < x26774))), (10, undef), (11, undef), (12, undef), (13, undef), (14, undef), (15, undef), (16, undef), (17, undef), (18, undef), (19, undef), (20, undef), (21, undef), (22, undef), (23, undef), (24, undef), (25, undef), (26, .bool true)], ?_⟩
      refine dEnd [0, 1, 2, 3, 4, 5, 6, 7, 8, 9, 10, 11, 12, 13, 14, 15, 16, 17, 18, 19, 20, 21, 22, 23, 24, 25, 26] (by kernel_rfl) ⟨pu rfl rfl [(0, .pointer (some ⟨g0, 0, none⟩))] (fun ac hA => y_move hA rfl rfl) rfl rfl, pu rfl rfl [(43, .pointer (some ⟨g0, 0, none⟩))] (fun ac hA => r_nilCheck rfl (hA.ev rfl)) rfl rfl, pu rfl rfl [(44, .pointer (some ⟨g0, 0, none⟩))] (fun ac hA => y_fab fa63_1 hA rfl rfl) rfl rfl, pu rfl rfl [(45, .pointer (some ⟨g0, 1, none⟩))] (fun ac hA => y_ld Tryd.underlying3 (hS.cell 0 rfl 1 _ rfl) hA rfl rfl rfl) rfl rfl, pu rfl rfl [(46, .int .i64 y26768.2.f1)] (fun ac hA => r_ltI rfl (hA.ev rfl) (hA.ev rfl)) rfl rfl, pu rfl rfl [(47, .bool (decide (y26768.2.f1 < 0)))] (fun ac hA => y_move hA rfl rfl) rfl rfl, puOn rfl rfl rfl rfl [(13, .int .i64 x26774), (48, .bool (decide (y26768.2.f1 < 0)))] rfl hb32440 (fun ac hA => y_move hA rfl rfl) rfl, puOn rfl rfl rfl rfl [(48, .bool (decide (y26768.2.f1 < 0))), (49, .int .i64 x26774)] rfl hb32440 (fun ac hA => r_gtI rfl (hA.ev rfl) (hA.ev rfl)) rfl, pu rfl rfl [(48, .bool (decide (y26768.2.f1 < 0))), (50, .bool (decide (64 < x26774)))] (fun ac hA => y_pickf hb32440 hA rfl rfl rfl) rfl rfl, pu rfl rfl [(51, .bool (decide (64 < x26774)))] (fun ac hA => y_move hA rfl rfl) rfl rfl, puOff rfl rfl rfl rfl [(0, .pointer (some ⟨g0, 0, none⟩)), (52, .bool (decide (64 < x26774)))] rfl hb32441 rfl, puOff rfl rfl rfl rfl [(52, .bool (decide (64 < x26774))), (53, undef)] rfl hb32441 rfl, puOff rfl rfl rfl rfl [(52, .bool (decide (64 < x26774))), (54, undef)] rfl hb32441 rfl, puOff rfl rfl rfl rfl [(52, .bool (decide (64 < x26774))), (55, undef)] rfl hb32441 rfl, puOff rfl rfl rfl rfl [(52, .bool (decide (64 < x26774))), (56, undef)] rfl hb32441 rfl, puOff rfl rfl rfl rfl [(0, .pointer (some ⟨g0, 0, none⟩)), (52, .bool (decide (64 < x26774)))] rfl hb32441 rfl, puOff rfl rfl rfl rfl [(52, .bool (decide (64 < x26774))), (58, undef)] rfl hb32441 rfl, puOff rfl rfl rfl rfl [(52, .bool (decide (64 < x26774))), (59, undef)] rfl hb32441 rfl, puOff rfl rfl rfl rfl [(52, .bool (decide (64 < x26774))), (60, undef)] rfl hb32441 rfl, puOff rfl rfl rfl rfl [(52, .bool (decide (64 < x26774))), (57, undef), (61, undef)] rfl hb32441 rfl, puOff rfl rfl rfl rfl [(4, .int .i64 x120), (52, .bool (decide (64 < x26774)))] rfl hb32441 rfl, puOff rfl rfl rfl rfl [(13, .int .i64 x26774), (52, .bool (decide (64 < x26774)))] rfl hb32441 rfl, puOff rfl rfl rfl rfl [(52, .bool (decide (64 < x26774))), (63, undef), (64, undef)] rfl hb32441 rfl, puOff rfl rfl rfl rfl [(52, .bool (decide (64 < x26774))), (65, undef)] rfl hb32441 rfl, puOff rfl rfl rfl rfl [(52, .bool (decide (64 < x26774))), (66, undef)] rfl hb32441 rfl, puOff rfl rfl rfl rfl [(52, .bool (decide (64 < x26774))), (62, undef), (67, undef)] rfl hb32441 rfl, pu rfl rfl [(52, .bool (decide (64 < x26774))), (68, undef)] (fun ac hA => y_pickt hb32441 hA rfl rfl rfl) rfl rfl, trivial⟩ ⟨by kernel_rfl, by kernel_rfl⟩ [(0, .pointer (some ⟨g0, 0, none⟩)), (4, .int .i64 x120), (5, .slice none 0 0), (12, .int .i64 y26761.1), (13, .int .i64 x26774), (69, .bool true)] rfl (fun ac hA => ?_)
      exact hj5 true hF ac w (hA.sub _ rfl) hS
    replace hF := iff' hb32441 hF
    obtain ⟨x32442, h32443, hF⟩ := ltt_ hF
    obtain ⟨x32444, h32445, hF⟩ := ltt_ hF
    obtain ⟨x32446, h32447, hF⟩ := ltt_ hF
    obtain ⟨x32448, h32449, hF⟩ := ltt_ hF
    refine ⟨[(0, .pointer (some ⟨g0, 0, none⟩)), (1, .pointer (some ⟨g0, 0, none⟩)), (2, .pointer (some ⟨g0, 1, none⟩)), (3, .int .i64 y26768.2.f1), (4, .bool (decide (y26768.2.f1 < 0))), (5, .bool (decide (y26768.2.f1 < 0))), (6, .int .i64 x26774), (7, .bool (decide (64 < x26774))), (8, .bool (decide (64 < x26774))), (9, .bool (decide (64 < x26774))), (10, .pointer (some ⟨g0, 0, none⟩)), (11, .pointer (some ⟨g0, 0, none⟩)), (12, .pointer (some ⟨g0, 0, none⟩)), (13, .slice A26770 n26771 c26772), (14, .int .i64 (y26768.2.f0.length : Int)), (15, .pointer (some ⟨g0, 0, none⟩)), (16, .pointer (some ⟨g0, 0, none⟩)), (17, .pointer (some ⟨g0, 1, none⟩)), (18, .int .i64 y26768.2.f1), (19, .int .i64 x32442), (20, .int .i64 x120), (21, .int .i64 x26774), (22, .int .i64 x32444), (23, .int .i64 x32446), (24, .int .i64 x32448), (25, .bool (x32442 != x32448)), (26, .bool (x32442 != x32448))], ?_⟩
    refine dEnd [0, 1, 2, 3, 4, 5, 6, 7, 8, 9, 10, 11, 12, 13, 14, 15, 16, 17, 18, 19, 20, 21, 22, 23, 24, 25, 26] (by kernel_rfl) ⟨pu rfl rfl [(0, .pointer (some ⟨g0, 0, none⟩))] (fun ac hA => y_move hA rfl rfl) rfl rfl, pu rfl rfl [(43, .pointer (some ⟨g0, 0, none⟩))] (fun ac hA => r_nilCheck rfl (hA.ev rfl)) rfl rfl, pu rfl rfl [(44, .pointer (some ⟨g0, 0, none⟩))] (fun ac hA => y_fab fa63_1 hA rfl rfl) rfl rfl, pu rfl rfl [(45, .pointer (some ⟨g0, 1, none⟩))] (fun ac hA => y_ld Tryd.underlying3 (hS.cell 0 rfl 1 _ rfl) hA rfl rfl rfl) rfl rfl, pu rfl rfl [(46, .int .i64 y26768.2.f1)] (fun ac hA => r_ltI rfl (hA.ev rfl) (hA.ev rfl)) rfl rfl, pu rfl rfl [(47, .bool (decide (y26768.2.f1 < 0)))] (fun ac hA => y_move hA rfl rfl) rfl rfl, puOn rfl rfl rfl rfl [(13, .int .i64 x26774), (48, .bool (decide (y26768.2.f1 < 0)))] rfl hb32440 (fun ac hA => y_move hA rfl rfl) rfl, puOn rfl rfl rfl rfl [(48, .bool (decide (y26768.2.f1 < 0))), (49, .int .i64 x26774)] rfl hb32440 (fun ac hA => r_gtI rfl (hA.ev rfl) (hA.ev rfl)) rfl, pu rfl rfl [(48, .bool (decide (y26768.2.f1 < 0))), (50, .bool (decide (64 < x26774)))] (fun ac hA => y_pickf hb32440 hA rfl rfl rfl) rfl rfl, pu rfl rfl [(51, .bool (decide (64 < x26774)))] (fun ac hA => y_move hA rfl rfl) rfl rfl, puOn rfl rfl rfl rfl [(0, .pointer (some ⟨g0, 0, none⟩)), (52, .bool (decide (64 < x26774)))] rfl hb32441 (fun ac hA => y_move hA rfl rfl) rfl, puOn rfl rfl rfl rfl [(52, .bool (decide (64 < x26774))), (53, .pointer (some ⟨g0, 0, none⟩))] rfl hb32441 (fun ac hA => r_nilCheck rfl (hA.ev rfl)) rfl, puOn rfl rfl rfl rfl [(52, .bool (decide (64 < x26774))), (54, .pointer (some ⟨g0, 0, none⟩))] rfl hb32441 (fun ac hA => y_fab fa63_0 hA rfl rfl) rfl, puOn rfl rfl rfl rfl [(52, .bool (decide (64 < x26774))), (55, .pointer (some ⟨g0, 0, none⟩))] rfl hb32441 (fun ac hA => y_ld Tryd.underlying22 (hS.cell 0 rfl 0 _ rfl) hA rfl rfl rfl) rfl, puOn rfl rfl rfl rfl [(52, .bool (decide (64 < x26774))), (56, .slice A26770 n26771 c26772)] rfl hb32441 (fun ac hA => y_len Tryd.underlying22 (hS.rdl 1 (h26773.rdl qz hZ) rfl).2.1 hA rfl rfl) rfl, puOn rfl rfl rfl rfl [(0, .pointer (some ⟨g0, 0, none⟩)), (52, .bool (decide (64 < x26774)))] rfl hb32441 (fun ac hA => y_move hA rfl rfl) rfl, puOn rfl rfl rfl rfl [(52, .bool (decide (64 < x26774))), (58, .pointer (some ⟨g0, 0, none⟩))] rfl hb32441 (fun ac hA => r_nilCheck rfl (hA.ev rfl)) rfl, puOn rfl rfl rfl rfl [(52, .bool (decide (64 < x26774))), (59, .pointer (some ⟨g0, 0, none⟩))] rfl hb32441 (fun ac hA => y_fab fa63_1 hA rfl rfl) rfl, puOn rfl rfl rfl rfl [(52, .bool (decide (64 < x26774))), (60, .pointer (some ⟨g0, 1, none⟩))] rfl hb32441 (fun ac hA => y_ld Tryd.underlying3 (hS.cell 0 rfl 1 _ rfl) hA rfl rfl rfl) rfl, puOn rfl rfl rfl rfl [(52, .bool (decide (64 < x26774))), (57, .int .i64 (y26768.2.f0.length : Int)), (61, .int .i64 y26768.2.f1)] rfl hb32441 (fun ac hA => (rv_i h32443 (r_sub rfl (hA.ev rfl) (hA.ev rfl)) : RunV _ _ _ _ (.int .i64 x32442))) rfl, puOn rfl rfl rfl rfl [(4, .int .i64 x120), (52, .bool (decide (64 < x26774)))] rfl hb32441 (fun ac hA => y_move hA rfl rfl) rfl, puOn rfl rfl rfl rfl [(13, .int .i64 x26774), (52, .bool (decide (64 < x26774)))] rfl hb32441 (fun ac hA => y_move hA rfl rfl) rfl, puOn rfl rfl rfl rfl [(52, .bool (decide (64 < x26774))), (63, .int .i64 x120), (64, .int .i64 x26774)] rfl hb32441 (fun ac hA => (rv_i h32445 (r_mul rfl (hA.ev rfl) (hA.ev rfl)) : RunV _ _ _ _ (.int .i64 x32444))) rfl, puOn rfl rfl rfl rfl [(52, .bool (decide (64 < x26774))), (65, .int .i64 x32444)] rfl hb32441 (fun ac hA => (rv_i h32447 (r_add rfl (hA.ev rfl) (hA.ev rfl)) : RunV _ _ _ _ (.int .i64 x32446))) rfl, puOn rfl rfl rfl rfl [(52, .bool (decide (64 < x26774))), (66, .int .i64 x32446)] rfl hb32441 (fun ac hA => (rv_i h32449 (r_quo rfl (hA.ev rfl) (hA.ev rfl) (by decide)) : RunV _ _ _ _ (.int .i64 x32448))) rfl, puOn rfl rfl rfl rfl [(52, .bool (decide (64 < x26774))), (62, .int .i64 x32442), (67, .int .i64 x32448)] rfl hb32441 (fun ac hA => r_neI rfl (hA.ev rfl) (hA.ev rfl)) rfl, pu rfl rfl [(52, .bool (decide (64 < x26774))), (68, .bool (x32442 != x32448))] (fun ac hA => y_pickf hb32441 hA rfl rfl rfl) rfl rfl, trivial⟩ ⟨by kernel_rfl, by kernel_rfl⟩ [(0, .pointer (some ⟨g0, 0, none⟩)), (4, .int .i64 x120), (5, .slice none 0 0), (12, .int .i64 y26761.1), (13, .int .i64 x26774), (69, .bool (x32442 != x32448))] rfl (fun ac hA => ?_)
    exact hj5 (x32442 != x32448) hF ac w (hA.sub _ rfl) hS
  refine wp_reg ?_
  refine x_move hA (fun ac hA => ?_) rfl rfl rfl rfl rfl
  refine x_val hA (r_nilCheck rfl (hA.ev rfl)) (fun ac hA => ?_) rfl rfl rfl
  refine x_fab fa63_1 hA (fun ac hA => ?_) rfl rfl rfl rfl rfl
  refine x_ld Tryd.underlying3 (hS.cell 0 rfl 1 _ rfl) hA (fun ac hA => ?_) rfl rfl rfl rfl rfl rfl
  refine x_val hA (r_ltI rfl (hA.ev rfl) (hA.ev rfl)) (fun ac hA => ?_) rfl rfl rfl
  refine x_move hA (fun ac hA => ?_) rfl rfl rfl rfl rfl
  refine bcase (b := decide (y114.2.f1 < 0)) (fun hb32450 => ?_) fun hb32450 => ?_
  · replace hF := ift hb32450 hF
    refine x_off hb32450 hA (fun ac hA => ?_) rfl rfl rfl rfl rfl
    refine x_off hb32450 hA (fun ac hA => ?_) rfl rfl rfl rfl rfl
    refine x_pickt hb32450 hA (fun ac hA => ?_) rfl rfl rfl rfl rfl rfl
    refine wpList_nil ?_
    exact hj1 true hF ac w (hA.sub _ rfl) hS
  replace hF := iff' hb32450 hF
  refine x_on hb32450 hA ?_ rfl rfl rfl
  refine x_move hA (fun ac hA => ?_) rfl rfl rfl rfl rfl
  refine x_on hb32450 hA ?_ rfl rfl rfl
  refine x_val hA (r_gtI rfl (hA.ev rfl) (hA.ev rfl)) (fun ac hA => ?_) rfl rfl rfl
  refine x_pickf hb32450 hA (fun ac hA => ?_) rfl rfl rfl rfl rfl rfl
  refine wpList_nil ?_
  exact hj1 (decide (3 < y107.1)) hF ac w (hA.sub _ rfl) hS
set_option maxRecDepth 100000 in
set_option maxHeartbeats 4000000 in
theorem F_r03_ReadInts {r : World} {L : List HP} {w : World} {Z : Nat → Prop} {wz : World} (a0 : (List Int)) (A0 : Option Addr) (n0 : Nat) (c0 : Nat) {y : ((List Int) × Bool)} (hF : r03_ReadInts a0 = some y) (qz : Nat) (hZ : L[qz]? = some (zone Z wz)) (ha0 : Imm Z wz (kI .u8) A0 n0 c0 a0) (hS : SH r (L) w) :
    Ret Tryd.prog 23 #[.slice A0 n0 c0] w fun v w' => ∃ (B0 : Option Addr) (m0 : Nat) (d0 : Nat), v = .tuple #[(.slice B0 m0 d0), (.bool y.2)] ∧ SH r (own (kI .i64) 2 B0 m0 d0 y.1 :: L) w' := by
  refine enter Tryd.func23 rfl Tryd.ntmps23 [(0, .slice A0 n0 c0)] rfl (by simp) ?_
  intro ac hA Qf hQ hQn
  unfold r03_ReadInts at hF
  refine wp_seq_k fun K101 hK101 => ?_
  refine wp_reg ?_
  refine x_assign hA (fun ac hA => ?_) rfl rfl rfl rfl rfl
  refine x_assign hA (fun ac hA => ?_) rfl rfl rfl rfl rfl
  refine wpList_nil ?_
  refine hK101 _ _ ?_
  refine wp_seq_k fun K102 hK102 => ?_
  refine wp_reg ?_
  refine x_move hA (fun ac hA => ?_) rfl rfl rfl rfl rfl
  refine x_val (v := .agg #[.slice A0 n0 c0, .int .i64 0]) hA (r_build (ps := #[(0, .slice A0 n0 c0)]) rfl (mapev2 hA rfl) (fun w => by kernel_rfl)) (fun ac hA => ?_) rfl rfl rfl
  refine x_box hA hS (fun g103 ac w hS hA => ?_) rfl rfl rfl rfl rfl rfl
  refine x_assign hA (fun ac hA => ?_) rfl rfl rfl rfl rfl
  refine wpList_nil ?_
  refine hK102 _ _ ?_
  refine wp_seq_k fun K104 hK104 => ?_
  refine wp_reg ?_
  refine x_move hA (fun ac hA => ?_) rfl rfl rfl rfl rfl
  replace hS := SH.pure_ ha0 hS
  replace hS := hS.pk 1
  replace hS := obj63_mk (x := (⟨a0, 0⟩ : S63)) hS
  obtain ⟨y105, h106, hF⟩ := bnd hF
  refine x_call en53 hA (F_r03_Reader_Ints (L := L) (⟨a0, 0⟩ : S63) g103 h106 (qz + 0) hZ hS) (fun v ac w hR hA => ?_) rfl rfl rfl rfl rfl
  obtain ⟨B107, m108, d109, rfl, hS⟩ := hR
  replace hS := hS.pk 1
  obtain ⟨A110, n111, c112, hS⟩ := obj63_open hS
  replace hS := hS.pk 1
  have hQ0 := SH.unpure hS
  clear hS
  obtain ⟨h113, hS⟩ := hQ0
  refine x_assign hA (fun ac hA => ?_) rfl rfl rfl rfl rfl
  refine wpList_nil ?_
  refine hK104 _ _ ?_
  refine wp_seq_k fun K114 hK114 => ?_
  refine wp_seq_k fun K115 hK115 => ?_
  refine wp_reg ?_
  refine x_move hA (fun ac hA => ?_) rfl rfl rfl rfl rfl
  refine x_val hA (r_nilCheck rfl (hA.ev rfl)) (fun ac hA => ?_) rfl rfl rfl
  refine x_fab fa63_1 hA (fun ac hA => ?_) rfl rfl rfl rfl rfl
  refine x_ld Tryd.underlying3 (hS.cell 0 rfl 1 _ rfl) hA (fun ac hA => ?_) rfl rfl rfl rfl rfl rfl
  refine x_move hA (fun ac hA => ?_) rfl rfl rfl rfl rfl
  refine x_len Tryd.underlying22 (hS.rdl 2 (ha0.rdl qz hZ) rfl).2.1 hA (fun ac hA => ?_) rfl rfl rfl rfl rfl
  refine x_val hA (r_neI rfl (hA.ev rfl) (hA.ev rfl)) (fun ac hA => ?_) rfl rfl rfl
  refine wpList_nil ?_
  refine hK115 _ _ ?_
  refine c_if hA rfl (fun hb116 => ?_) fun hb116 => ?_
  · replace hF := ift hb116 hF
    refine wp_seq_k fun K117 hK117 => ?_
    refine wp_reg ?_
    refine x_assign hA (fun ac hA => ?_) rfl rfl rfl rfl rfl
    refine x_assign hA (fun ac hA => ?_) rfl rfl rfl rfl rfl
    refine wpList_nil ?_
    refine hK117 _ _ ?_
    refine wp_ret ?_
    replace hS := SH.nil_own (d := (kI .i64)) (e := 2) hS
    replace hS := hS.drop 1
    replace hS := hS.drop 1
    cases hF
    refine hQ _ _ ?_
    refine lv2 Tryd.results23 hA rfl rfl ?_
    exact ⟨none, 0, 0, rfl, hS⟩
  replace hF := iff' hb116 hF
  refine wp_skip ?_
  refine hK114 _ _ ?_
  refine wp_seq_k fun K118 hK118 => ?_
  refine wp_reg ?_
  refine x_move hA (fun ac hA => ?_) rfl rfl rfl rfl rfl
  refine x_assign hA (fun ac hA => ?_) rfl rfl rfl rfl rfl
  refine x_assign hA (fun ac hA => ?_) rfl rfl rfl rfl rfl
  refine wpList_nil ?_
  refine hK118 _ _ ?_
  refine wp_ret ?_
  replace hS := hS.drop 0
  cases hF
  refine hQ _ _ ?_
  refine lv2 Tryd.results23 hA rfl rfl ?_
  exact ⟨B107, m108, d109, rfl, hS⟩
end Go.Proofs.YthokgnonmcgkcaaDoor.M
namespace Go.Proofs.YthokgnonmcgkcaaDoor.M
open Go Go.RowKit Go.Proofs.YthokgnonmcgkcaaDoor.E
set_option linter.unusedVariables false
set_option linter.unusedSimpArgs false
theorem catch_pan {r : World} {L : List HP} {g : Nat} {b : Bool} {w : World} (hS : SH r (blk g 4 [.bool b] :: L) w) :
    CallsD Tryd.prog 40 #[.pointer (some ⟨g, 0, none⟩)] (.panicking badC) w fun e u' w' => e = .returned (.tuple #[]) ∧ u' = .panicking [{ v := .iface 83 (.agg #[]), recovered := true }] ∧ SH r (blk g 4 [.bool false] :: L) w' := by
  refine callsD_of_wpS Tryd.func40 rfl fun c₀ cs hu => ?_
  apply wpS_seq
  apply wpS_region
  simp only [List.size_toArray, List.length_cons, List.length_nil, Nat.zero_add]
  rw [show List.range (1 + 1) = [0, 1] from rfl]
  simp [wpOpsS, go_sem, recoverD, hu, badC, Tryd.ntmps40, Exit.thenS]
  generalize hac : ({ tmps := _, defers := _ } : Act) = ac
  have hA : FR 15 [] ac [(0, .pointer (some ⟨g, 0, none⟩)), (1, .iface 83 (.agg #[]))] := by
    subst hac
    refine ⟨by simp, rfl, fun t v hv => ?_⟩
    simp only [lk] at hv
    by_cases e0 : t = 0
    · subst e0; cases hv; rfl
    by_cases e1 : t = 1
    · subst e1; cases hv; rfl
    · exfalso
      rw [show Nat.beq 0 t = false by cases h : Nat.beq 0 t; rfl; exact absurd (Nat.eq_of_beq_eq_true h).symm e0, show Nat.beq 1 t = false by cases h : Nat.beq 1 t; rfl; exact absurd (Nat.eq_of_beq_eq_true h).symm e1] at hv
      cases hv
  clear hac
  refine wpS_of_wp ?_
  have fin : ∀ (a : Act) (w : World), FR 15 [] a [] → SH r (blk g 4 [.bool false] :: L) w → bodyPostS Tryd.prog Tryd.f40 c₀ cs (fun e u' w' => e = .returned (.tuple #[]) ∧ u' = .panicking [{ v := .iface 83 (.agg #[]), recovered := true }] ∧ SH r (blk g 4 [.bool false] :: L) w') .normal a ({ c₀ with mode := .panicking [{ v := .iface 83 (.agg #[]), recovered := true }] } :: cs) w := by
    intro a w hA hS
    exact ⟨hA.defers, _, rfl, _, results_none Tryd.results40 _ _ _, rfl, rfl, hS⟩
  refine wp_seq_k fun K1 h1 => ?_
  refine wp_reg ?_
  refine x_move hA (fun ac hA => ?_)
  refine x_val (v := .bool true) hA (r_neIfNil Tryd.underlying20 rfl (hA.ev rfl) (hA.ev rfl)) (fun ac hA => ?_)
  refine wpList_nil ?_
  refine h1 _ _ ?_
  refine c_t (b := true) rfl hA ?_
  refine wp_seq_k fun K4 h4 => ?_
  refine wp_seq_k fun K2 h2 => ?_
  refine wp_reg ?_
  refine x_move hA (fun ac hA => ?_)
  refine x_val (v := .tuple #[.agg #[], .bool true]) hA (r_typeAssert Tryd.underlying83 rfl rfl (hA.ev rfl)) (fun ac hA => ?_)
  refine x_move hA (fun ac hA => ?_)
  refine x_val hA (r_extract rfl (hA.ev rfl) rfl) (fun ac hA => ?_)
  refine x_val hA (r_extract rfl (hA.ev rfl) rfl) (fun ac hA => ?_)
  refine x_alloc (cs := []) zr83 hA hS (fun g2 ac w hS hA => ?_)
  refine x_stb (vs := []) 0 sz83 hA hS rfl (fun ac w hS hA => ?_)
  refine x_assign hA (fun ac hA => ?_)
  refine wpList_nil ?_
  refine h2 _ _ ?_
  refine wp_seq_k fun K3 h3 => ?_
  refine wp_reg ?_
  refine x_move hA (fun ac hA => ?_)
  refine x_val hA (r_not rfl (hA.ev rfl)) (fun ac hA => ?_)
  refine wpList_nil ?_
  refine h3 _ _ ?_
  refine c_f (b := !true) rfl hA ?_
  refine wp_skip ?_
  refine h4 _ _ ?_
  refine wp_reg ?_
  refine x_stb (vs := [.bool false]) 1 sz4 hA hS rfl (fun ac w hS hA => ?_)
  refine wpList_nil ?_
  have hS' := hS.pk 1
  exact fin _ _ (hA.sub _ rfl) (hS'.tail)
theorem catch_idle {g : Nat} {w : World} :
    CallsD Tryd.prog 40 #[.pointer (some ⟨g, 0, none⟩)] .returning w fun e u' w' => e = .returned (.tuple #[]) ∧ u' = .returning ∧ w' = w := by
  refine callsD_of_wpS Tryd.func40 rfl fun c₀ cs hu => ?_
  apply wpS_seq
  apply wpS_region
  simp only [List.size_toArray, List.length_cons, List.length_nil, Nat.zero_add]
  rw [show List.range (1 + 1) = [0, 1] from rfl]
  simp [wpOpsS, go_sem, recoverD, hu, Tryd.ntmps40, Exit.thenS]
  generalize hac : ({ tmps := _, defers := _ } : Act) = ac
  have hA : FR 15 [] ac [(0, .pointer (some ⟨g, 0, none⟩)), (1, .nilIface)] := by
    subst hac
    refine ⟨by simp, rfl, fun t v hv => ?_⟩
    simp only [lk] at hv
    by_cases e0 : t = 0
    · subst e0; cases hv; rfl
    by_cases e1 : t = 1
    · subst e1; cases hv; rfl
    · exfalso
      rw [show Nat.beq 0 t = false by cases h : Nat.beq 0 t; rfl; exact absurd (Nat.eq_of_beq_eq_true h).symm e0, show Nat.beq 1 t = false by cases h : Nat.beq 1 t; rfl; exact absurd (Nat.eq_of_beq_eq_true h).symm e1] at hv
      cases hv
  clear hac
  refine wpS_of_wp ?_
  refine wp_seq_k fun K1 h1 => ?_
  refine wp_reg ?_
  refine x_move hA (fun ac hA => ?_)
  refine x_val (v := .bool false) hA (r_neNilIf Tryd.underlying20 rfl (hA.ev rfl)) (fun ac hA => ?_)
  refine wpList_nil ?_
  refine h1 _ _ ?_
  refine c_f (b := false) rfl hA ?_
  refine wp_skip ?_
  refine ⟨hA.defers, c₀.mode, rfl, _, results_none Tryd.results40 _ _ _, rfl, hu, rfl⟩
theorem results_bool {r : World} {L : List HP} {w : World} {g : Nat} {b : Bool} {a : Act} {n : Nat} {D : List Deferred} {F : List (Nat × Value)} (hA : FR n D a F) (h1 : lk F 4 = some (.pointer (some ⟨g, 0, none⟩))) (hS : SH r (blk g 4 [.bool b] :: L) w) :
    (results Tryd.f13 a.tmps).run Tryd.prog w = .ok (.bool b) w := by
  have e1 : a.tmps.getD 4 undef = .pointer (some ⟨g, 0, none⟩) := hA.ev (x := .tmp 4) h1
  have e1' : a.tmps[4]?.getD undef = .pointer (some ⟨g, 0, none⟩) := by rw [← Array.getD_eq_getD_getElem?]; exact e1
  have hc := hS.cell 0 rfl 0 (.bool b) rfl
  have hagg : (isAgg 4).run Tryd.prog w = .ok false w := by rw [run_isAgg_flat Tryd.underlying4]; rfl
  have hld : (loadVar 4 ⟨g, 0, none⟩).run Tryd.prog w = .ok (.bool b) w := by simp [loadVar, hagg, hc]
  simp [results, Tryd.results13, e1', asAddr, hld]
section
variable {r : World} {L : List HP} {w : World} {A : Option Addr} {n c f : Nat} {fs caps : Array Value}
theorem try_walk {R : Value → World → Prop} (hf : EN Tryd.prog f) (hS : SH r L w)
    (hret : ∀ g g4 w1, SH r (blk g 86 [.slice A n c] :: blk g4 4 [.bool false] :: L) w1 →
      (Ret Tryd.prog f (fs ++ #[.pointer (some ⟨g, 0, none⟩)] ++ caps) w1 fun v w2 => ∃ L1 A' n' c', SH r (blk g 86 [.slice A' n' c'] :: blk g4 4 [.bool false] :: L1) w2 ∧ ∀ w3, SH r L1 w3 → R (.bool ((n' : Int) == 0)) w3) ∨
      (Calls Tryd.prog f (fs ++ #[.pointer (some ⟨g, 0, none⟩)] ++ caps) w1 fun e w2 => e = .panicked badC ∧ ∃ L1, SH r (blk g4 4 [.bool false] :: L1) w2 ∧ ∀ w3, SH r L1 w3 → R (.bool false) w3)) :
    Ret Tryd.prog 13 #[.slice A n c, .func (.func f) fs caps] w R := by
  refine enterD Tryd.func13 rfl Tryd.ntmps13 [(0, .slice A n c), (1, .func (.func f) fs caps)] rfl (by simp) ?_
  intro ac hA
  refine wp_seq_k fun K0 h0 => ?_
  refine wp_reg ?_
  refine x_alloc (cs := [.bool false]) zr4 hA hS (fun g4 ac w hS hA => ?_)
  refine wpList_nil ?_
  refine h0 _ _ ?_
  refine wp_seq_k fun K1 h1 => ?_
  refine wp_reg ?_
  refine x_val hA (r_makeFunc rfl (mapev (vals := #[]) hA rfl) (mapev (vals := #[.pointer (some ⟨g4, 0, none⟩)]) hA rfl)) (fun ac hA => ?_)
  refine x_defer (vs := #[]) hA (fun ac hA => ?_)
  refine wpList_nil ?_
  refine h1 _ _ ?_
  refine wp_seq_k fun K2 h2 => ?_
  refine wp_reg ?_
  refine x_move hA (fun ac hA => ?_)
  refine x_val (v := .agg #[.slice A n c]) hA (r_build (ps := #[(0, .slice A n c)]) rfl (mapev2 hA rfl) (fun w => by kernel_rfl)) (fun ac hA => ?_)
  refine x_box hA hS (fun g ac w hS hA => ?_)
  refine x_assign hA (fun ac hA => ?_)
  refine wpList_nil ?_
  refine h2 _ _ ?_
  refine wp_seq_k fun K3 h3 => ?_
  refine wp_reg ?_
  refine x_move hA (fun ac hA => ?_)
  refine x_move hA (fun ac hA => ?_)
  rcases hret g g4 w hS with hr | hp
  · refine x_callw (vs := #[.pointer (some ⟨g, 0, none⟩)]) hf hA hr (fun v ac w hR hA => ?_)
    obtain ⟨L1, A', n', c', hS, hR⟩ := hR
    refine wpList_nil ?_
    refine h3 _ _ ?_
    refine wp_seq_k fun K4 h4 => ?_
    refine wp_reg ?_
    refine x_move hA (fun ac hA => ?_)
    refine x_val hA (r_nilCheck rfl (hA.ev rfl)) (fun ac hA => ?_)
    refine x_fab fa86_0 hA (fun ac hA => ?_)
    refine x_ld Tryd.underlying22 (hS.cell 0 rfl 0 _ rfl) hA (fun ac hA => ?_)
    refine x_val hA (r_len Tryd.underlying22 rfl (hA.ev rfl)) (fun ac hA => ?_)
    refine x_val hA (r_eqI rfl (hA.ev rfl) (hA.ev rfl)) (fun ac hA => ?_)
    refine x_stb (vs := [.bool ((n' : Int) == 0)]) 1 sz4 hA hS rfl (fun ac w hS hA => ?_)
    refine wpList_nil ?_
    refine h4 _ _ ?_
    refine wp_ret ?_
    show Leaves _ _ _ _ _ _ _
    rw [hA.defers]
    refine leaves_cons (f := 40) (args := #[.pointer (some ⟨g4, 0, none⟩)]) (by simp) (by simp [invoke, (en40 _ _ : _ = _)]) ?_
    refine CallsD.mono catch_idle ?_
    rintro e u' w' ⟨rfl, rfl, rfl⟩
    exact ⟨_, results_bool hA rfl hS, _, rfl, hR _ (hS.tail.tail)⟩
  · refine x_callp (vs := #[.pointer (some ⟨g, 0, none⟩)]) hf hA hp (fun w hR => ?_)
    obtain ⟨L1, hS, hR⟩ := hR
    show Leaves _ _ _ _ _ _ _
    rw [hA.defers]
    refine leaves_cons (f := 40) (args := #[.pointer (some ⟨g4, 0, none⟩)]) (by simp) (by simp [invoke, (en40 _ _ : _ = _)]) ?_
    refine CallsD.mono (catch_pan hS) ?_
    rintro e u' w' ⟨rfl, rfl, hS⟩
    exact ⟨_, results_bool hA rfl hS, _, rfl, hR _ hS.tail⟩
end
end Go.Proofs.YthokgnonmcgkcaaDoor.M
namespace Go.Proofs.YthokgnonmcgkcaaDoor.M
open Go Go.RowKit Go.Proofs.YthokgnonmcgkcaaDoor.E
set_option linter.unusedVariables false
set_option linter.unusedSimpArgs false
noncomputable def column_Reader_Check (a0 : S86) (a1 : Bool) : Option ((S86) ⊕ (S86)) :=
  if (!a1) = true then (some (.inr a0)) else (some (.inl a0))
noncomputable def column_Reader_Byte (a0 : S86) : Option ((Int × S86) ⊕ (S86)) :=
  (column_Reader_Check a0 (decide (0 < (a0.f0.length : Int)))).bind fun y107 => (sum_ y107 (fun y107 => ((at_ y107.f0 0).bind fun x118 => ((cut_ y107.f0 1 (y107.f0.length : Int)).bind fun l122 => (some (.inl (x118, (⟨l122⟩ : S86))))))) (fun y107 => (some (.inr y107))))
noncomputable def column_Reader_Uint_j2 (x536 : Int) (l573 : (List Int)) : Option (((List Int) × Int × Int) ⊕ (((Int × S86) ⊕ (S86)))) :=
  some (.inr (.inl (x536, (⟨l573⟩ : S86))))
noncomputable def column_Reader_Uint_j1 (a1 : Int) (x293 : Int) (x294 : Int) (y478 : (Int × S86)) (l521 : (List Int)) : Option (((List Int) × Int × Int) ⊕ (((Int × S86) ⊕ (S86)))) :=
  ltt (iand .u8 y478.1 127) fun x527 => (ltt (IntKind.u64.wrap x527) fun x529 => (ltt (IntKind.i64.wrap (7 * x294)) fun x531 => (chk (0 ≤ x531) (ltt (ishl .u64 x529 x531) fun x534 => (ltt (ior .u64 x293 x534) fun x536 => (if (decide (y478.1 < 128)) = true then (if (decide (x536 ≤ a1)) = true then (if (x294 == 0) = true then ((column_Reader_Check (⟨l521⟩ : S86) true).bind fun y581 => (sum_ y581 (fun y581 => (column_Reader_Uint_j2 x536 y581.f0)) (fun y581 => (some (.inr (.inr y581)))))) else ((column_Reader_Check (⟨l521⟩ : S86) (decide (0 < y478.1))).bind fun y591 => (sum_ y591 (fun y591 => (column_Reader_Uint_j2 x536 y591.f0)) (fun y591 => (some (.inr (.inr y591))))))) else ((column_Reader_Check (⟨l521⟩ : S86) false).bind fun y601 => (sum_ y601 (fun y601 => (column_Reader_Uint_j2 x536 y601.f0)) (fun y601 => (some (.inr (.inr y601))))))) else (ltt (IntKind.i64.wrap (x294 + 1)) fun x611 => (some (.inl (l521, x536, x611))))))))))
noncomputable def column_Reader_Uint_l1 (a1 : Int) (l288 : (List Int)) (x293 : Int) (x294 : Int) : Option (((List Int) × Int × Int) ⊕ (((Int × S86) ⊕ (S86)))) :=
  (column_Reader_Byte (⟨l288⟩ : S86)).bind fun y478 => (sum_ y478 (fun y478 => (if (decide (x294 < 9)) = true then ((column_Reader_Check y478.2 true).bind fun y614 => (sum_ y614 (fun y614 => (column_Reader_Uint_j1 a1 x293 x294 y478 y614.f0)) (fun y614 => (some (.inr (.inr y614)))))) else (if (x294 == 9) = true then ((column_Reader_Check y478.2 (decide (y478.1 < 2))).bind fun y625 => (sum_ y625 (fun y625 => (column_Reader_Uint_j1 a1 x293 x294 y478 y625.f0)) (fun y625 => (some (.inr (.inr y625)))))) else ((column_Reader_Check y478.2 false).bind fun y635 => (sum_ y635 (fun y635 => (column_Reader_Uint_j1 a1 x293 x294 y478 y635.f0)) (fun y635 => (some (.inr (.inr y635))))))))) (fun y478 => (some (.inr (.inr y478)))))
noncomputable def column_Reader_Uint (a0 : S86) (a1 : Int) : Option ((Int × S86) ⊕ (S86)) :=
  (loop (fun s => column_Reader_Uint_l1 a1 s.1 s.2.1 s.2.2) (a0.f0, 0, 0)).bind fun t => some t
noncomputable def column_Reader_Int (a0 : S86) : Option ((Int × S86) ⊕ (S86)) :=
  (column_Reader_Uint a0 18446744073709551615).bind fun y107 => (sum_ y107 (fun y107 => (ltt (ishr .u64 y107.1 1) fun x118 => (ltt (IntKind.i64.wrap x118) fun x120 => (ltt (iand .u64 y107.1 1) fun x122 => (ltt (IntKind.i64.wrap x122) fun x124 => (ltt (ixor .i64 x120 (IntKind.i64.wrap (0 - x124))) fun x126 => (some (.inl (x126, y107.2))))))))) (fun y107 => (some (.inr y107))))
noncomputable def column_Reader_Text (a0 : S86) (a1 : Int) : Option (((List UInt8) × S86) ⊕ (S86)) :=
  ltt (IntKind.u64.wrap a1) fun x107 => ((column_Reader_Uint a0 x107).bind fun y109 => (sum_ y109 (fun y109 => (ltt (IntKind.u64.wrap (y109.2.f0.length : Int)) fun x120 => ((column_Reader_Check y109.2 (decide (y109.1 ≤ x120))).bind fun y122 => (sum_ y122 (fun y122 => ((cut_ y122.f0 0 y109.1).bind fun l133 => ((cut_ y122.f0 y109.1 (y122.f0.length : Int)).bind fun l141 => (some (.inl (bts l133, (⟨l141⟩ : S86))))))) (fun y122 => (some (.inr y122))))))) (fun y109 => (some (.inr y109)))))
noncomputable def column_list_int64_b1 (l464 : (List Int)) (l469 : (List Int)) : Option (((List Int) × S86) ⊕ (S86)) :=
  some (.inl (l469, (⟨l464⟩ : S86)))
noncomputable def column_list_int64_x1_0 (l556 : (List Int)) (l561 : (List Int)) : Option (((List Int) × S86) ⊕ (S86)) :=
  column_list_int64_b1 l556 l561
noncomputable def column_list_int64_l1 (a0 : Int) (l514 : (List Int)) (l519 : (List Int)) (x523 : Int) : Option (((List Int) × (List Int) × Int) ⊕ (((List Int) × (List Int)) ⊕ (((List Int) × S86) ⊕ (S86)))) :=
  if (decide (x523 < a0)) = true then ((column_Reader_Int (⟨l514⟩ : S86)).bind fun y571 => (sum_ y571 (fun y571 => (chk (l519.length + [y571.1].length ≤ 140737488355328 / 8) (ltt (IntKind.i64.wrap (x523 + 1)) fun x586 => (some (.inl (y571.2.f0, l519 ++ [y571.1], x586)))))) (fun y571 => (some (.inr (.inr (.inr y571))))))) else (some (.inr (.inl (l514, l519))))
noncomputable def column_list_int64 (a0 : Int) (a60 : S86) : Option (((List Int) × S86) ⊕ (S86)) :=
  (loop (fun s => column_list_int64_l1 a0 s.1 s.2.1 s.2.2) (a60.f0, [], 0)).bind fun t => match t with | (.inl t) => column_list_int64_x1_0 t.1 t.2 | (.inr t) => some t
noncomputable def column_unpack_b2 (l2329 : (List Int)) : Option (((List Int) × S86) ⊕ (S86)) :=
  some (.inl (l2329, (⟨[]⟩ : S86)))
noncomputable def column_unpack_x1_2 (l2364 : (List Int)) : Option (((List Int) × S86) ⊕ (S86)) :=
  column_unpack_b2 l2364
noncomputable def column_unpack_l1 (y107 : (Int × S86)) (l2180 : (List Int)) (l2347 : (List Int)) (x2348 : Int) : Option (((List Int) × Int) ⊕ (((List Int)))) :=
  if (decide (x2348 < (l2180.length : Int))) = true then ((at_ l2347 x2348).bind fun x2372 => (ltt (IntKind.i64.wrap (x2372 + y107.1)) fun x2375 => (ltt (IntKind.i64.wrap (x2348 + 1)) fun x2377 => (some (.inl (l2347.set x2348.toNat x2375, x2377)))))) else (some (.inr (l2347)))
noncomputable def column_unpack_b1 (y107 : (Int × S86)) (l2175 : (List Int)) (l2180 : (List Int)) : Option (((List Int) × S86) ⊕ (S86)) :=
  (loop (fun s => column_unpack_l1 y107 l2180 s.1 s.2) (l2180, 0)).bind fun t => column_unpack_x1_2 t
noncomputable def column_unpack_x2_0 (y107 : (Int × S86)) (l2828 : (List Int)) (l2833 : (List Int)) : Option (((List Int) × S86) ⊕ (S86)) :=
  column_unpack_b1 y107 l2828 l2833
noncomputable def column_unpack_b3 (x2606 : Int) (l2992 : (List Int)) (l2997 : (List Int)) : Option (((List Int) × (List Int) × Int) ⊕ (((List Int) × (List Int)) ⊕ (((List Int) × S86) ⊕ (S86)))) :=
  ltt (IntKind.i64.wrap (x2606 + 1)) fun x2998 => (some (.inl (l2992, l2997, x2998)))
noncomputable def column_unpack_l2 (a1 : Int) (x127 : Int) (x1502 : Int) (l2600 : (List Int)) (l2605 : (List Int)) (x2606 : Int) : Option (((List Int) × (List Int) × Int) ⊕ (((List Int) × (List Int)) ⊕ (((List Int) × S86) ⊕ (S86)))) :=
  if (decide (x2606 < x1502)) = true then (ltt (IntKind.i64.wrap (x2606.tdiv 8)) fun x3002 => ((at_ l2600 x3002).bind fun x3004 => (ltt (x2606.tmod 8) fun x3007 => (chk (0 ≤ x3007) (ltt (ishr .u8 x3004 x3007) fun x3010 => (ltt (IntKind.u64.wrap x3010) fun x3012 => (ltt (iand .u64 x3012 1) fun x3014 => (ltt (IntKind.i64.wrap (a1 * x127)) fun x3018 => (if (decide (x3018 ≤ x2606)) = true then ((column_Reader_Check (⟨l2600⟩ : S86) (x3014 == 0)).bind fun y3022 => (sum_ y3022 (fun y3022 => (column_unpack_b3 x2606 y3022.f0 l2605)) (fun y3022 => (some (.inr (.inr (.inr y3022))))))) else (chk (x127 ≠ 0) (ltt (IntKind.i64.wrap (x2606.tdiv x127)) fun x3033 => ((at_ l2605 x3033).bind fun x3035 => (chk (x127 ≠ 0) (ltt (x2606.tmod x127) fun x3039 => (chk (0 ≤ x3039) (ltt (ishl .u64 x3014 x3039) fun x3042 => (ltt (IntKind.i64.wrap x3042) fun x3044 => (ltt (ior .i64 x3035 x3044) fun x3046 => (column_unpack_b3 x2606 l2600 (l2605.set x3033.toNat x3046)))))))))))))))))))) else (some (.inr (.inl (l2600, l2605))))
noncomputable def column_unpack_j1 (a1 : Int) (y107 : (Int × S86)) (x127 : Int) (l157 : (List Int)) : Option (((List Int) × S86) ⊕ (S86)) :=
  chk (0 ≤ a1 ∧ (8 : Int) * a1 ≤ 140737488355328) (ltt (IntKind.i64.wrap (8 * (l157.length : Int))) fun x1502 => ((loop (fun s => column_unpack_l2 a1 x127 x1502 s.1 s.2.1 s.2.2) (l157, List.replicate a1.toNat (0 : Int), 0)).bind fun t => match t with | (.inl t) => column_unpack_x2_0 y107 t.1 t.2 | (.inr t) => some t))
noncomputable def column_unpack (a0 : S86) (a1 : Int) : Option (((List Int) × S86) ⊕ (S86)) :=
  (column_Reader_Int a0).bind fun y107 => (sum_ y107 (fun y107 => ((column_Reader_Byte y107.2).bind fun y117 => (sum_ y117 (fun y117 => (ltt (IntKind.i64.wrap y117.1) fun x127 => (if (decide (x127 ≤ 64)) = true then (ltt (IntKind.i64.wrap (a1 * x127)) fun x3049 => (ltt (IntKind.i64.wrap (x3049 + 7)) fun x3051 => (ltt (IntKind.i64.wrap (x3051.tdiv 8)) fun x3053 => ((column_Reader_Check y117.2 ((y117.2.f0.length : Int) == x3053)).bind fun y3055 => (sum_ y3055 (fun y3055 => (column_unpack_j1 a1 y107 x127 y3055.f0)) (fun y3055 => (some (.inr y3055)))))))) else ((column_Reader_Check y117.2 false).bind fun y3065 => (sum_ y3065 (fun y3065 => (column_unpack_j1 a1 y107 x127 y3065.f0)) (fun y3065 => (some (.inr y3065)))))))) (fun y117 => (some (.inr y117)))))) (fun y107 => (some (.inr y107))))
noncomputable def column_ints_b1 (l6763 : (List Int)) (l6768 : (List Int)) : Option (((List Int) × S86) ⊕ (S86)) :=
  some (.inl (l6768, (⟨l6763⟩ : S86)))
noncomputable def column_ints_b2 (l6919 : (List Int)) (l6924 : (List Int)) : Option (((List Int) × S86) ⊕ (S86)) :=
  column_ints_b1 l6919 l6924
noncomputable def column_ints_x1_1 (l7019 : (List Int)) (l7024 : (List Int)) : Option (((List Int) × S86) ⊕ (S86)) :=
  column_ints_b2 l7019 l7024
noncomputable def column_ints_l1 (x139 : Int) (l6972 : (List Int)) (l6977 : (List Int)) (x6981 : Int) (x6982 : Int) : Option (((List Int) × (List Int) × Int × Int) ⊕ (((List Int) × (List Int)) ⊕ (((List Int) × S86) ⊕ (S86)))) :=
  if (decide (x6982 < x139)) = true then ((column_Reader_Int (⟨l6972⟩ : S86)).bind fun y7035 => (sum_ y7035 (fun y7035 => (ltt (IntKind.i64.wrap (x6981 + y7035.1)) fun x7045 => (chk (l6977.length + [x7045].length ≤ 140737488355328 / 8) (ltt (IntKind.i64.wrap (x6982 + 1)) fun x7052 => (some (.inl (y7035.2.f0, l6977 ++ [x7045], x7045, x7052))))))) (fun y7035 => (some (.inr (.inr (.inr y7035))))))) else (some (.inr (.inl (l6972, l6977))))
noncomputable def column_ints_b3 (l8002 : (List Int)) (l8007 : (List Int)) : Option (((List Int) × S86) ⊕ (S86)) :=
  column_ints_b1 l8002 l8007
noncomputable def column_ints_x2_3 (l8646 : (List Int)) (l8651 : (List Int)) : Option (((List Int) × S86) ⊕ (S86)) :=
  column_ints_b3 l8646 l8651
noncomputable def column_ints_b4 (y8826 : (Int × S86)) (l8895 : (List Int)) : Option (((List Int) × (List Int)) ⊕ (((List Int) × (List Int)) ⊕ (((List Int) × S86) ⊕ (S86)))) :=
  some (.inl (y8826.2.f0, l8895))
noncomputable def column_ints_x3_5 (y8826 : (Int × S86)) (l8938 : (List Int)) : Option (((List Int) × (List Int)) ⊕ (((List Int) × (List Int)) ⊕ (((List Int) × S86) ⊕ (S86)))) :=
  column_ints_b4 y8826 l8938
noncomputable def column_ints_l3 (y8809 : (Int × S86)) (x8836 : Int) (l8916 : (List Int)) (x8920 : Int) : Option (((List Int) × Int) ⊕ (((List Int)))) :=
  if (decide (x8920 < x8836)) = true then (chk (l8916.length + [y8809.1].length ≤ 140737488355328 / 8) (ltt (IntKind.u64.wrap (x8920 + 1)) fun x8953 => (some (.inl (l8916 ++ [y8809.1], x8953))))) else (some (.inr (l8916)))
noncomputable def column_ints_l2 (x139 : Int) (l8328 : (List Int)) (l8333 : (List Int)) : Option (((List Int) × (List Int)) ⊕ (((List Int) × (List Int)) ⊕ (((List Int) × S86) ⊕ (S86)))) :=
  if (decide ((l8333.length : Int) < x139)) = true then ((column_Reader_Int (⟨l8328⟩ : S86)).bind fun y8809 => (sum_ y8809 (fun y8809 => (ltt (IntKind.i64.wrap (x139 - (l8333.length : Int))) fun x8820 => (ltt (IntKind.i64.wrap (x8820 - 1)) fun x8822 => (ltt (IntKind.u64.wrap x8822) fun x8824 => ((column_Reader_Uint y8809.2 x8824).bind fun y8826 => (sum_ y8826 (fun y8826 => (ltt (IntKind.u64.wrap (1 + y8826.1)) fun x8836 => ((loop (fun s => column_ints_l3 y8809 x8836 s.1 s.2) (l8333, 0)).bind fun t => column_ints_x3_5 y8826 t))) (fun y8826 => (some (.inr (.inr (.inr y8826))))))))))) (fun y8809 => (some (.inr (.inr (.inr y8809))))))) else (some (.inr (.inl (l8328, l8333))))
noncomputable def column_ints (a0 : S86) : Option (((List Int) × S86) ⊕ (S86)) :=
  (column_Reader_Byte a0).bind fun y107 => (sum_ y107 (fun y107 => ((column_Reader_Check y107.2 (decide (y107.1 ≤ 3))).bind fun y118 => (sum_ y118 (fun y118 => ((column_Reader_Uint y118 4096).bind fun y129 => (sum_ y129 (fun y129 => (ltt (IntKind.i64.wrap y129.1) fun x139 => (if (y107.1 == 0) = true then ((column_list_int64 x139 y129.2).bind fun y6775 => (sum_ y6775 (fun y6775 => (column_ints_b1 y6775.2.f0 y6775.1)) (fun y6775 => (some (.inr y6775))))) else (if (y107.1 == 1) = true then ((loop (fun s => column_ints_l1 x139 s.1 s.2.1 s.2.2.1 s.2.2.2) (y129.2.f0, [], 0, 0)).bind fun t => match t with | (.inl t) => column_ints_x1_1 t.1 t.2 | (.inr t) => some t) else (if (y107.1 == 2) = true then ((loop (fun s => column_ints_l2 x139 s.1 s.2) (y129.2.f0, [])).bind fun t => match t with | (.inl t) => column_ints_x2_3 t.1 t.2 | (.inr t) => some t) else (if (y107.1 == 3) = true then (if (decide (0 < x139)) = true then ((column_unpack y129.2 x139).bind fun y8959 => (sum_ y8959 (fun y8959 => (column_ints_b1 y8959.2.f0 y8959.1)) (fun y8959 => (some (.inr y8959))))) else (column_ints_b1 y129.2.f0 [])) else (column_ints_b1 y129.2.f0 []))))))) (fun y129 => (some (.inr y129)))))) (fun y118 => (some (.inr y118)))))) (fun y107 => (some (.inr y107))))
noncomputable def column_ReadInts_1 (a0 : S86) (a1 : (List Int)) : Option ((S86 × (List Int)) ⊕ (S86 × (List Int))) :=
  (column_ints a0).bind fun y108 => (sum_ y108 (fun y108 => (some (.inl (y108.2, y108.1)))) (fun y108 => (some (.inr (y108, a1)))))
noncomputable def Try_column_ReadInts_1 (a0 : (List Int)) (a60 : (List Int)) : Option (Bool × (List Int)) :=
  (column_ReadInts_1 (⟨a0⟩ : S86) a60).bind fun y => (sum_ y (fun y => some ((((y.1.f0.length : Int) == 0), y.2))) (fun y => some ((false, y.2))))
noncomputable def column_ReadInts (a0 : (List Int)) : Option ((List Int) × Int) :=
  (Try_column_ReadInts_1 a0 []).bind fun y106 => (if (!y106.1) = true then (some ([], 3)) else (some (y106.2, 0)))
end Go.Proofs.YthokgnonmcgkcaaDoor.M
