/- The calls come to the plain functions. -/
import Derived.Test.YtpanacifejpjhaaMb
import Derived.Test.YtpanacifejpjhaaDc
namespace Go.Proofs.Ytpanacifejpjhaa.M
open Go Go.RowKit Go.Proofs.Ytpanacifejpjhaa.E
set_option linter.unusedVariables false
set_option linter.unusedSimpArgs false

set_option maxHeartbeats 4000000 in
theorem F_merge_Tree_ahead {r : World} {L : List HP} {w : World} {Z : Nat → Prop} {wz : World} (a0 : S48) (a1 : Int) (a2 : Int) (g0 : Nat) {y : (Bool × S48)} (hF : merge_Tree_ahead a0 a1 a2 = some y) (qz : Nat) (hZ : L[qz]? = some (zone Z wz)) (hS : SH r (obj48 Z wz g0 a0 :: L) w) :
    Ret Try.prog 25 #[.pointer (some ⟨g0, 0, none⟩), .int .i64 a1, .int .i64 a2] w fun v w' => v = .bool y.1 ∧ SH r (obj48 Z wz g0 y.2 :: L) w' := by
  refine enter Try.func25 rfl Try.ntmps25 [(0, .pointer (some ⟨g0, 0, none⟩)), (1, .int .i64 a1), (2, .int .i64 a2)] rfl (by simp) ?_
  intro ac hA Qf hQ hQn
  unfold merge_Tree_ahead at hF
  obtain ⟨A101, n102, c103, A104, n105, c106, hS⟩ := obj48_open hS
  refine wp_seq_k fun K107 hK107 => ?_
  refine wp_reg ?_
  refine x_assign hA (fun ac hA => ?_) rfl rfl rfl rfl rfl
  refine wpList_nil ?_
  refine hK107 _ _ ?_
  refine wp_seq_k fun K108 hK108 => ?_
  refine wp_draw [0, 1, 3, 7, 0, 31, 63, 0, 128, 384, 896, 0, 3968, 8064, 127, 32767] [] rfl hA hS (by kernel_rfl) (by kernel_rfl) (by kernel_rfl) (by kernel_rfl) fun w hS => ?_
  obtain ⟨x109, h110, hF⟩ := bnd hF
  obtain ⟨cs, hV, hc111⟩ := el (hS.rd 1 rfl) h110
  obtain ⟨A112, n113, c114, rfl, h115⟩ := hV
  obtain ⟨x116, h117, hF⟩ := bnd hF
  obtain ⟨cs, hV, hc118⟩ := el (hS.rd 1 rfl) h117
  obtain ⟨A119, n120, c121, rfl, h122⟩ := hV
  refine ⟨[(0, .pointer (some ⟨g0, 0, none⟩)), (1, .pointer (some ⟨g0, 0, none⟩)), (2, .pointer (some ⟨g0, 0, none⟩)), (3, .slice A101 n102 c103), (4, .int .i64 a1), (5, .pointer (some (ea A101 (a1.toNat * 1)))), (6, .slice A112 n113 c114), (7, .pointer (some ⟨g0, 0, none⟩)), (8, .pointer (some ⟨g0, 0, none⟩)), (9, .pointer (some ⟨g0, 0, none⟩)), (10, .slice A101 n102 c103), (11, .int .i64 a2), (12, .pointer (some (ea A101 (a2.toNat * 1)))), (13, .slice A119 n120 c121), (14, .slice A112 n113 c114), (15, .slice A119 n120 c121)], ?_⟩
  refine dEnd [0, 1, 2, 3, 4, 5, 6, 7, 8, 9, 10, 11, 12, 13, 14, 15] (by kernel_rfl) ⟨pu rfl rfl [(0, .pointer (some ⟨g0, 0, none⟩))] (fun ac hA => y_move hA rfl rfl) rfl rfl, pu rfl rfl [(9, .pointer (some ⟨g0, 0, none⟩))] (fun ac hA => r_nilCheck rfl (hA.ev rfl)) rfl rfl, pu rfl rfl [(10, .pointer (some ⟨g0, 0, none⟩))] (fun ac hA => y_fab fa48_0 hA rfl rfl) rfl rfl, pu rfl rfl [(11, .pointer (some ⟨g0, 0, none⟩))] (fun ac hA => y_ld Try.underlying22 (hS.cell 0 rfl 0 _ rfl) hA rfl rfl rfl) rfl rfl, pu rfl rfl [(1, .int .i64 a1)] (fun ac hA => y_move hA rfl rfl) rfl rfl, pu rfl rfl [(12, .slice A101 n102 c103), (13, .int .i64 a1)] (fun ac hA => y_ia Try.underlying22 sz25 (hS.rd 1 rfl) h110 hA rfl rfl rfl) rfl rfl, pu rfl rfl [(14, .pointer (some (ea A101 (a1.toNat * 1))))] (fun ac hA => y_ld Try.underlying25 (hc111 0 _ rfl) hA rfl rfl rfl) rfl rfl, pu rfl rfl [(0, .pointer (some ⟨g0, 0, none⟩))] (fun ac hA => y_move hA rfl rfl) rfl rfl, pu rfl rfl [(16, .pointer (some ⟨g0, 0, none⟩))] (fun ac hA => r_nilCheck rfl (hA.ev rfl)) rfl rfl, pu rfl rfl [(17, .pointer (some ⟨g0, 0, none⟩))] (fun ac hA => y_fab fa48_0 hA rfl rfl) rfl rfl, pu rfl rfl [(18, .pointer (some ⟨g0, 0, none⟩))] (fun ac hA => y_ld Try.underlying22 (hS.cell 0 rfl 0 _ rfl) hA rfl rfl rfl) rfl rfl, pu rfl rfl [(2, .int .i64 a2)] (fun ac hA => y_move hA rfl rfl) rfl rfl, pu rfl rfl [(19, .slice A101 n102 c103), (20, .int .i64 a2)] (fun ac hA => y_ia Try.underlying22 sz25 (hS.rd 1 rfl) h117 hA rfl rfl rfl) rfl rfl, pu rfl rfl [(21, .pointer (some (ea A101 (a2.toNat * 1))))] (fun ac hA => y_ld Try.underlying25 (hc118 0 _ rfl) hA rfl rfl rfl) rfl rfl, pu rfl rfl [(15, .slice A112 n113 c114)] (fun ac hA => y_assign hA rfl rfl) rfl rfl, pu rfl rfl [(22, .slice A119 n120 c121)] (fun ac hA => y_assign hA rfl rfl) rfl rfl, trivial⟩ ⟨by kernel_rfl, by kernel_rfl⟩ [(0, .pointer (some ⟨g0, 0, none⟩)), (1, .int .i64 a1), (2, .int .i64 a2), (7, .slice A112 n113 c114), (8, .slice A119 n120 c121)] rfl (fun ac hA => ?_)
  refine hK108 _ _ ?_
  refine wp_seq_k fun K123 hK123 => ?_
  refine wp_block_k fun Kx124 hKx124 => ?_
  refine wp_seq_k fun K125 hK125 => ?_
  have hj1 : ∀ (b127 : Bool), merge_Tree_ahead_j1 a0 a1 a2 x109 x116 b127 = some y → ∀ (ac : Act) (w : World), FR 64 [] ac [(0, .pointer (some ⟨g0, 0, none⟩)), (1, .int .i64 a1), (2, .int .i64 a2), (7, .slice A112 n113 c114), (8, .slice A119 n120 c121), (23, .bool b127)] → SH r (blk g0 48 [.slice A101 n102 c103, .slice A104 n105 c106] :: own (kM Z wz k30) 25 A101 n102 c103 a0.f0 :: own (kI .i64) 3 A104 n105 c106 a0.f1 :: L) w → K125 ac w := by
    intro b127 hF ac w hA hS
    unfold merge_Tree_ahead_j1 at hF
    refine hK125 _ _ ?_
    refine c_if hA rfl (fun hb128 => ?_) fun hb128 => ?_
    · replace hF := ift hb128 hF
      refine wp_seq_k fun K129 hK129 => ?_
      refine wp_reg ?_
      refine x_move hA (fun ac hA => ?_) rfl rfl rfl rfl rfl
      refine x_len Try.underlying25 (hS.rdl 3 (h115.rdl qz hZ) rfl).2.1 hA (fun ac hA => ?_) rfl rfl rfl rfl rfl
      refine x_val hA (r_gtI rfl (hA.ev rfl) (hA.ev rfl)) (fun ac hA => ?_) rfl rfl rfl
      refine x_move hA (fun ac hA => ?_) rfl rfl rfl rfl rfl
      refine bcase (b := decide (0 < (x109.length : Int))) (fun hb130 => ?_) fun hb130 => ?_
      · replace hF := ift hb130 hF
        refine x_off hb130 hA (fun ac hA => ?_) rfl rfl rfl rfl rfl
        refine x_off hb130 hA (fun ac hA => ?_) rfl rfl rfl rfl rfl
        refine x_off hb130 hA (fun ac hA => ?_) rfl rfl rfl rfl rfl
        refine x_off hb130 hA (fun ac hA => ?_) rfl rfl rfl rfl rfl
        refine x_offU hA (fun ac hA => ?_) rfl rfl rfl rfl rfl
        refine x_offU hA (fun ac hA => ?_) rfl rfl rfl rfl rfl
        refine x_offU hA (fun ac hA => ?_) rfl rfl rfl rfl rfl
        refine x_off hb130 hA (fun ac hA => ?_) rfl rfl rfl rfl rfl
        refine x_pickt hb130 hA (fun ac hA => ?_) rfl rfl rfl rfl rfl rfl
        refine x_assign hA (fun ac hA => ?_) rfl rfl rfl rfl rfl
        refine wpList_nil ?_
        refine hK129 _ _ ?_
        refine wp_ret ?_
        replace hS := hS.pk 2
        replace hS := hS.pk 2
        replace hS := hS.pk 2
        replace hS := obj48_mk (x := a0) hS
        cases hF
        refine hQ _ _ ?_
        refine lv Try.results25 hA rfl ?_
        exact ⟨rfl, hS⟩
      replace hF := iff' hb130 hF
      refine x_on hb130 hA ?_ rfl rfl rfl
      refine x_move hA (fun ac hA => ?_) rfl rfl rfl rfl rfl
      refine x_on hb130 hA ?_ rfl rfl rfl
      refine x_len Try.underlying25 (hS.rdl 3 (h122.rdl qz hZ) rfl).2.1 hA (fun ac hA => ?_) rfl rfl rfl rfl rfl
      refine x_on hb130 hA ?_ rfl rfl rfl
      refine x_val hA (r_eqI rfl (hA.ev rfl) (hA.ev rfl)) (fun ac hA => ?_) rfl rfl rfl
      refine x_on hb130 hA ?_ rfl rfl rfl
      refine x_move hA (fun ac hA => ?_) rfl rfl rfl rfl rfl
      refine bcase (b := (x116.length : Int) == 0) (fun hb131 => ?_) fun hb131 => ?_
      · replace hF := ift hb131 hF
        refine x_on hb131 hA ?_ rfl rfl rfl
        refine x_move hA (fun ac hA => ?_) rfl rfl rfl rfl rfl
        refine x_on hb131 hA ?_ rfl rfl rfl
        refine x_move hA (fun ac hA => ?_) rfl rfl rfl rfl rfl
        refine x_on hb131 hA ?_ rfl rfl rfl
        refine x_val hA (r_ltI rfl (hA.ev rfl) (hA.ev rfl)) (fun ac hA => ?_) rfl rfl rfl
        refine x_on hb130 hA ?_ rfl rfl rfl
        refine x_pickt hb131 hA (fun ac hA => ?_) rfl rfl rfl rfl rfl rfl
        refine x_pickf hb130 hA (fun ac hA => ?_) rfl rfl rfl rfl rfl rfl
        refine x_assign hA (fun ac hA => ?_) rfl rfl rfl rfl rfl
        refine wpList_nil ?_
        refine hK129 _ _ ?_
        refine wp_ret ?_
        replace hS := hS.pk 2
        replace hS := hS.pk 2
        replace hS := hS.pk 2
        replace hS := obj48_mk (x := a0) hS
        cases hF
        refine hQ _ _ ?_
        refine lv Try.results25 hA rfl ?_
        exact ⟨rfl, hS⟩
      replace hF := iff' hb131 hF
      refine x_off hb131 hA (fun ac hA => ?_) rfl rfl rfl rfl rfl
      refine x_off hb131 hA (fun ac hA => ?_) rfl rfl rfl rfl rfl
      refine x_off hb131 hA (fun ac hA => ?_) rfl rfl rfl rfl rfl
      refine x_on hb130 hA ?_ rfl rfl rfl
      refine x_pickf hb131 hA (fun ac hA => ?_) rfl rfl rfl rfl rfl rfl
      refine x_pickf hb130 hA (fun ac hA => ?_) rfl rfl rfl rfl rfl rfl
      refine x_assign hA (fun ac hA => ?_) rfl rfl rfl rfl rfl
      refine wpList_nil ?_
      refine hK129 _ _ ?_
      refine wp_ret ?_
      replace hS := hS.pk 2
      replace hS := hS.pk 2
      replace hS := hS.pk 2
      replace hS := obj48_mk (x := a0) hS
      cases hF
      refine hQ _ _ ?_
      refine lv Try.results25 hA rfl ?_
      exact ⟨rfl, hS⟩
    replace hF := iff' hb128 hF
    refine wp_seq_k fun K132 hK132 => ?_
    refine wp_draw [0, 1, 3, 0, 8, 24, 63, 127] [6] rfl hA hS (by kernel_rfl) (by kernel_rfl) (by kernel_rfl) (by kernel_rfl) fun w hS => ?_
    obtain ⟨x133, h134, hF⟩ := bnd hF
    obtain ⟨cs, hV, hc135⟩ := el (hS.rdl 3 (h115.rdl qz hZ) rfl) h134
    obtain rfl := hV
    obtain ⟨x136, h137, hF⟩ := bnd hF
    obtain ⟨cs, hV, hc138⟩ := el (hS.rdl 3 (h122.rdl qz hZ) rfl) h137
    obtain rfl := hV
    refine ⟨[(0, .slice A112 n113 c114), (1, .pointer (some (ea A112 ((0 : Int).toNat * 5)))), (2, .agg #[.int .u64 x133.f0, .int .i64 x133.f1, .int .i64 x133.f2, str x133.f3, .float .f64 x133.f4]), (3, .slice A119 n120 c121), (4, .pointer (some (ea A119 ((0 : Int).toNat * 5)))), (5, .agg #[.int .u64 x136.f0, .int .i64 x136.f1, .int .i64 x136.f2, str x136.f3, .float .f64 x136.f4])], ?_⟩
    refine dEff [0, 1, 2, 3, 4, 5] [6] (by kernel_rfl) ⟨pu rfl rfl [(7, .slice A112 n113 c114)] (fun ac hA => y_move hA rfl rfl) rfl rfl, pu rfl rfl [(46, .slice A112 n113 c114)] (fun ac hA => y_ia Try.underlying25 sz30 (hS.rdl 3 (h115.rdl qz hZ) rfl) h134 hA rfl rfl rfl) rfl rfl, pu rfl rfl [(47, .pointer (some (ea A112 ((0 : Int).toNat * 5))))] (fun ac hA => y_lda (cs := [.int .u64 x133.f0, .int .i64 x133.f1, .int .i64 x133.f2, str x133.f3, .float .f64 x133.f4]) Try.underlying30 sz30 (fun j u h => by rw [ea_add]; exact hc135 _ _ h) hA rfl rfl rfl) rfl rfl, pu rfl rfl [(8, .slice A119 n120 c121)] (fun ac hA => y_move hA rfl rfl) rfl rfl, pu rfl rfl [(49, .slice A119 n120 c121)] (fun ac hA => y_ia Try.underlying25 sz30 (hS.rdl 3 (h122.rdl qz hZ) rfl) h137 hA rfl rfl rfl) rfl rfl, pu rfl rfl [(50, .pointer (some (ea A119 ((0 : Int).toNat * 5))))] (fun ac hA => y_lda (cs := [.int .u64 x136.f0, .int .i64 x136.f1, .int .i64 x136.f2, str x136.f3, .float .f64 x136.f4]) Try.underlying30 sz30 (fun j u h => by rw [ea_add]; exact hc138 _ _ h) hA rfl rfl rfl) rfl rfl, trivial⟩ (by kernel_rfl) (by kernel_rfl) ⟨ef rfl [(48, .agg #[.int .u64 x133.f0, .int .i64 x133.f1, .int .i64 x133.f2, str x133.f3, .float .f64 x133.f4]), (51, .agg #[.int .u64 x136.f0, .int .i64 x136.f1, .int .i64 x136.f2, str x136.f3, .float .f64 x136.f4])] (fun ac hA K hK => ?_) rfl rfl, trivial⟩
    obtain ⟨y139, h140, hF⟩ := bnd hF
    refine z_call en23 hA (F_event_Less (L := blk g0 48 [.slice A101 n102 c103, .slice A104 n105 c106] :: own (kM Z wz k30) 25 A101 n102 c103 a0.f0 :: own (kI .i64) 3 A104 n105 c106 a0.f1 :: L) x133 x136 h140 hS) (fun v w hR => ?_) rfl rfl
    obtain ⟨rfl, hS⟩ := hR
    refine hK _ [(7, .bool y139)] _ rfl ?_
    refine dEnd [7] (by kernel_rfl) ⟨pu rfl rfl [(52, .bool y139)] (fun ac hA => y_assign hA rfl rfl) rfl rfl, trivial⟩ ⟨by kernel_rfl, by kernel_rfl⟩ [(0, .pointer (some ⟨g0, 0, none⟩)), (1, .int .i64 a1), (2, .int .i64 a2), (7, .slice A112 n113 c114), (8, .slice A119 n120 c121), (45, .bool y139)] rfl (fun ac hA => ?_)
    refine hK132 _ _ ?_
    refine c_if hA rfl (fun hb141 => ?_) fun hb141 => ?_
    · replace hF := ift hb141 hF
      refine wp_seq_k fun K142 hK142 => ?_
      refine wp_reg ?_
      refine x_assign hA (fun ac hA => ?_) rfl rfl rfl rfl rfl
      refine wpList_nil ?_
      refine hK142 _ _ ?_
      refine wp_ret ?_
      replace hS := hS.pk 2
      replace hS := hS.pk 2
      replace hS := hS.pk 2
      replace hS := obj48_mk (x := a0) hS
      cases hF
      refine hQ _ _ ?_
      refine lv Try.results25 hA rfl ?_
      exact ⟨rfl, hS⟩
    replace hF := iff' hb141 hF
    refine wp_seq_k fun K143 hK143 => ?_
    refine wp_draw [0, 1, 3, 0, 8, 24, 63, 127] [6] rfl hA hS (by kernel_rfl) (by kernel_rfl) (by kernel_rfl) (by kernel_rfl) fun w hS => ?_
    obtain ⟨cs, hV, hc144⟩ := el (hS.rdl 3 (h122.rdl qz hZ) rfl) h137
    obtain rfl := hV
    obtain ⟨cs, hV, hc145⟩ := el (hS.rdl 3 (h115.rdl qz hZ) rfl) h134
    obtain rfl := hV
    refine ⟨[(0, .slice A119 n120 c121), (1, .pointer (some (ea A119 ((0 : Int).toNat * 5)))), (2, .agg #[.int .u64 x136.f0, .int .i64 x136.f1, .int .i64 x136.f2, str x136.f3, .float .f64 x136.f4]), (3, .slice A112 n113 c114), (4, .pointer (some (ea A112 ((0 : Int).toNat * 5)))), (5, .agg #[.int .u64 x133.f0, .int .i64 x133.f1, .int .i64 x133.f2, str x133.f3, .float .f64 x133.f4])], ?_⟩
    refine dEff [0, 1, 2, 3, 4, 5] [6] (by kernel_rfl) ⟨pu rfl rfl [(8, .slice A119 n120 c121)] (fun ac hA => y_move hA rfl rfl) rfl rfl, pu rfl rfl [(54, .slice A119 n120 c121)] (fun ac hA => y_ia Try.underlying25 sz30 (hS.rdl 3 (h122.rdl qz hZ) rfl) h137 hA rfl rfl rfl) rfl rfl, pu rfl rfl [(55, .pointer (some (ea A119 ((0 : Int).toNat * 5))))] (fun ac hA => y_lda (cs := [.int .u64 x136.f0, .int .i64 x136.f1, .int .i64 x136.f2, str x136.f3, .float .f64 x136.f4]) Try.underlying30 sz30 (fun j u h => by rw [ea_add]; exact hc144 _ _ h) hA rfl rfl rfl) rfl rfl, pu rfl rfl [(7, .slice A112 n113 c114)] (fun ac hA => y_move hA rfl rfl) rfl rfl, pu rfl rfl [(57, .slice A112 n113 c114)] (fun ac hA => y_ia Try.underlying25 sz30 (hS.rdl 3 (h115.rdl qz hZ) rfl) h134 hA rfl rfl rfl) rfl rfl, pu rfl rfl [(58, .pointer (some (ea A112 ((0 : Int).toNat * 5))))] (fun ac hA => y_lda (cs := [.int .u64 x133.f0, .int .i64 x133.f1, .int .i64 x133.f2, str x133.f3, .float .f64 x133.f4]) Try.underlying30 sz30 (fun j u h => by rw [ea_add]; exact hc145 _ _ h) hA rfl rfl rfl) rfl rfl, trivial⟩ (by kernel_rfl) (by kernel_rfl) ⟨ef rfl [(56, .agg #[.int .u64 x136.f0, .int .i64 x136.f1, .int .i64 x136.f2, str x136.f3, .float .f64 x136.f4]), (59, .agg #[.int .u64 x133.f0, .int .i64 x133.f1, .int .i64 x133.f2, str x133.f3, .float .f64 x133.f4])] (fun ac hA K hK => ?_) rfl rfl, trivial⟩
    obtain ⟨y146, h147, hF⟩ := bnd hF
    refine z_call en23 hA (F_event_Less (L := blk g0 48 [.slice A101 n102 c103, .slice A104 n105 c106] :: own (kM Z wz k30) 25 A101 n102 c103 a0.f0 :: own (kI .i64) 3 A104 n105 c106 a0.f1 :: L) x136 x133 h147 hS) (fun v w hR => ?_) rfl rfl
    obtain ⟨rfl, hS⟩ := hR
    refine hK _ [(7, .bool y146)] _ rfl ?_
    refine dEnd [7] (by kernel_rfl) ⟨pu rfl rfl [(60, .bool y146)] (fun ac hA => y_assign hA rfl rfl) rfl rfl, trivial⟩ ⟨by kernel_rfl, by kernel_rfl⟩ [(0, .pointer (some ⟨g0, 0, none⟩)), (1, .int .i64 a1), (2, .int .i64 a2), (53, .bool y146)] rfl (fun ac hA => ?_)
    refine hK143 _ _ ?_
    refine c_if hA rfl (fun hb148 => ?_) fun hb148 => ?_
    · replace hF := ift hb148 hF
      refine wp_seq_k fun K149 hK149 => ?_
      refine wp_reg ?_
      refine x_assign hA (fun ac hA => ?_) rfl rfl rfl rfl rfl
      refine wpList_nil ?_
      refine hK149 _ _ ?_
      refine wp_ret ?_
      replace hS := hS.pk 2
      replace hS := hS.pk 2
      replace hS := hS.pk 2
      replace hS := obj48_mk (x := a0) hS
      cases hF
      refine hQ _ _ ?_
      refine lv Try.results25 hA rfl ?_
      exact ⟨rfl, hS⟩
    replace hF := iff' hb148 hF
    refine wp_skip ?_
    refine hKx124 _ _ ?_
    refine hK123 _ _ ?_
    refine wp_seq_k fun K150 hK150 => ?_
    refine wp_reg ?_
    refine x_move hA (fun ac hA => ?_) rfl rfl rfl rfl rfl
    refine x_move hA (fun ac hA => ?_) rfl rfl rfl rfl rfl
    refine x_val hA (r_ltI rfl (hA.ev rfl) (hA.ev rfl)) (fun ac hA => ?_) rfl rfl rfl
    refine x_assign hA (fun ac hA => ?_) rfl rfl rfl rfl rfl
    refine wpList_nil ?_
    refine hK150 _ _ ?_
    refine wp_ret ?_
    replace hS := hS.pk 2
    replace hS := hS.pk 2
    replace hS := hS.pk 2
    replace hS := obj48_mk (x := a0) hS
    cases hF
    refine hQ _ _ ?_
    refine lv Try.results25 hA rfl ?_
    exact ⟨rfl, hS⟩
  refine wp_reg ?_
  refine x_move hA (fun ac hA => ?_) rfl rfl rfl rfl rfl
  refine x_len Try.underlying25 (hS.rdl 3 (h115.rdl qz hZ) rfl).2.1 hA (fun ac hA => ?_) rfl rfl rfl rfl rfl
  refine x_val hA (r_eqI rfl (hA.ev rfl) (hA.ev rfl)) (fun ac hA => ?_) rfl rfl rfl
  refine x_move hA (fun ac hA => ?_) rfl rfl rfl rfl rfl
  refine bcase (b := (x109.length : Int) == 0) (fun hb151 => ?_) fun hb151 => ?_
  · replace hF := ift hb151 hF
    refine x_off hb151 hA (fun ac hA => ?_) rfl rfl rfl rfl rfl
    refine x_off hb151 hA (fun ac hA => ?_) rfl rfl rfl rfl rfl
    refine x_off hb151 hA (fun ac hA => ?_) rfl rfl rfl rfl rfl
    refine x_pickt hb151 hA (fun ac hA => ?_) rfl rfl rfl rfl rfl rfl
    refine x_assign hA (fun ac hA => ?_) rfl rfl rfl rfl rfl
    refine wpList_nil ?_
    exact hj1 true hF ac w (hA.sub _ rfl) hS
  replace hF := iff' hb151 hF
  refine x_on hb151 hA ?_ rfl rfl rfl
  refine x_move hA (fun ac hA => ?_) rfl rfl rfl rfl rfl
  refine x_on hb151 hA ?_ rfl rfl rfl
  refine x_len Try.underlying25 (hS.rdl 3 (h122.rdl qz hZ) rfl).2.1 hA (fun ac hA => ?_) rfl rfl rfl rfl rfl
  refine x_on hb151 hA ?_ rfl rfl rfl
  refine x_val hA (r_eqI rfl (hA.ev rfl) (hA.ev rfl)) (fun ac hA => ?_) rfl rfl rfl
  refine x_pickf hb151 hA (fun ac hA => ?_) rfl rfl rfl rfl rfl rfl
  refine x_assign hA (fun ac hA => ?_) rfl rfl rfl rfl rfl
  refine wpList_nil ?_
  exact hj1 ((x116.length : Int) == 0) hF ac w (hA.sub _ rfl) hS

set_option maxHeartbeats 4000000 in
theorem F_merge_New {r : World} {L : List HP} {w : World} {Z : Nat → Prop} {wz : World} (a0 : (List (List S30))) (A0 : Option Addr) (n0 : Nat) (c0 : Nat) {y : ((Option S48) × Int)} (hF : merge_New a0 = some y) (qz : Nat) (hZ : L[qz]? = some (zone Z wz)) (ha0 : RdL L (kM Z wz k30) A0 n0 c0 a0) (hS : SH r (L) w) :
    Ret Try.prog 13 #[.slice A0 n0 c0] w fun v w' => ∃ (p0 : Option Addr), v = .tuple #[(.pointer p0), (.int .i64 y.2)] ∧ SH r (optP (obj48 Z wz) p0 y.1 :: L) w' := by
  refine enter Try.func13 rfl Try.ntmps13 [(0, .slice A0 n0 c0)] rfl (by simp) ?_
  intro ac hA Qf hQ hQn
  unfold merge_New at hF
  refine wp_seq_k fun K101 hK101 => ?_
  refine wp_reg ?_
  refine x_assign hA (fun ac hA => ?_) rfl rfl rfl rfl rfl
  refine x_assign hA (fun ac hA => ?_) rfl rfl rfl rfl rfl
  refine wpList_nil ?_
  refine hK101 _ _ ?_
  refine wp_seq_k fun K102 hK102 => ?_
  refine wp_seq_k fun K103 hK103 => ?_
  have hj1 : ∀ (b105 : Bool), merge_New_j1 a0 b105 = some y → ∀ (ac : Act) (w : World), FR 125 [] ac [(0, .slice A0 n0 c0), (21, .bool b105)] → SH r (L) w → K103 ac w := by
    intro b105 hF ac w hA hS
    unfold merge_New_j1 at hF
    refine hK103 _ _ ?_
    refine c_if hA rfl (fun hb106 => ?_) fun hb106 => ?_
    · replace hF := ift hb106 hF
      refine wp_seq_k fun K107 hK107 => ?_
      refine wp_reg ?_
      refine x_assign hA (fun ac hA => ?_) rfl rfl rfl rfl rfl
      refine x_assign hA (fun ac hA => ?_) rfl rfl rfl rfl rfl
      refine wpList_nil ?_
      refine hK107 _ _ ?_
      refine wp_ret ?_
      replace hS := SH.optN (obj48 Z wz) hS
      cases hF
      refine hQ _ _ ?_
      refine lv2 Try.results13 hA rfl rfl ?_
      exact ⟨none, rfl, hS⟩
    replace hF := iff' hb106 hF
    refine wp_skip ?_
    refine hK102 _ _ ?_
    refine wp_seq_k fun K108 hK108 => ?_
    refine wp_reg ?_
    refine x_val (v := .agg #[.slice none 0 0, .slice none 0 0]) hA (r_build (ps := #[]) rfl (mapev2 hA rfl) (fun w => by kernel_rfl)) (fun ac hA => ?_) rfl rfl rfl
    refine x_box hA hS (fun g109 ac w hS hA => ?_) rfl rfl rfl rfl rfl rfl
    refine x_assign hA (fun ac hA => ?_) rfl rfl rfl rfl rfl
    refine wpList_nil ?_
    refine hK108 _ _ ?_
    refine wp_seq_k fun K110 hK110 => ?_
    refine wp_seq_k fun K1556 hK1556 => ?_
    refine wp_reg ?_
    refine x_move hA (fun ac hA => ?_) rfl rfl rfl rfl rfl
    refine x_len Try.underlying22 (hS.rdl 1 ha0 rfl).2.1 hA (fun ac hA => ?_) rfl rfl rfl rfl rfl
    refine x_move hA (fun ac hA => ?_) rfl rfl rfl rfl rfl
    refine wpList_nil ?_
    refine hK1556 _ _ ?_
    refine wp_block_k fun Kx1557 hKx1557 => ?_
    have hb1 : ∀ (l2277 : (List (List S30))), merge_New_b1 a0 l2277 = some y → ∀ (A2278 : Option Addr) (n2279 : Nat) (c2280 : Nat) (ac : Act) (w : World), FR 125 [] ac [(0, .slice A0 n0 c0), (4, .pointer (some ⟨g109, 0, none⟩))] → SH r (blk g109 48 [.slice A2278 n2279 c2280, .slice none 0 0] :: own (kM Z wz k30) 25 A2278 n2279 c2280 l2277 :: L) w → Kx1557 ac w := by
      intro l2277 hF A2278 n2279 c2280 ac w hA hS
      unfold merge_New_b1 at hF
      refine hKx1557 _ _ ?_
      refine hK110 _ _ ?_
      refine wp_seq_k fun K2281 hK2281 => ?_
      refine wp_reg ?_
      refine x_move hA (fun ac hA => ?_) rfl rfl rfl rfl rfl
      refine x_len Try.underlying22 (hS.rdl 2 ha0 rfl).2.1 hA (fun ac hA => ?_) rfl rfl rfl rfl rfl
      refine x_assign hA (fun ac hA => ?_) rfl rfl rfl rfl rfl
      refine wpList_nil ?_
      refine hK2281 _ _ ?_
      refine wp_seq_k fun K2282 hK2282 => ?_
      refine wp_reg ?_
      refine x_move hA (fun ac hA => ?_) rfl rfl rfl rfl rfl
      refine x_move hA (fun ac hA => ?_) rfl rfl rfl rfl rfl
      obtain ⟨h2283, hF⟩ := chk_some hF
      refine x_mks (d := (kI .i64)) (bytes := 8) 0 inf3 rfl Try.underlying41 h2283 hA hS (fun g2284 ac w hS hA => ?_) rfl rfl rfl rfl rfl rfl
      refine x_val hA (r_nilCheck rfl (hA.ev rfl)) (fun ac hA => ?_) rfl rfl rfl
      refine x_fab fa48_1 hA (fun ac hA => ?_) rfl rfl rfl rfl rfl
      refine x_stb 1 sz41 hA hS rfl (fun  ac w hS hA => ?_) rfl rfl rfl rfl rfl rfl rfl rfl
      refine wpList_nil ?_
      refine hK2282 _ _ ?_
      refine wp_seq_k fun K2285 hK2285 => ?_
      refine wp_reg ?_
      refine x_move hA (fun ac hA => ?_) rfl rfl rfl rfl rfl
      refine x_val hA (r_mul rfl (hA.ev rfl) (hA.ev rfl)) (fun ac hA => ?_) rfl rfl rfl
      obtain ⟨h2286, hF⟩ := chk_some hF
      refine x_mks (d := (kI .i64)) (bytes := 8) 0 inf3 rfl Try.underlying41 h2286 hA hS (fun g2287 ac w hS hA => ?_) rfl rfl rfl rfl rfl rfl
      refine x_assign hA (fun ac hA => ?_) rfl rfl rfl rfl rfl
      refine wpList_nil ?_
      refine hK2285 _ _ ?_
      refine wp_seq_k fun K2288 hK2288 => ?_
      refine wp_seq_k fun K2357 hK2357 => ?_
      refine wp_reg ?_
      refine x_move hA (fun ac hA => ?_) rfl rfl rfl rfl rfl
      refine x_move hA (fun ac hA => ?_) rfl rfl rfl rfl rfl
      refine wpList_nil ?_
      refine hK2357 _ _ ?_
      refine wp_block_k fun Kx2358 hKx2358 => ?_
      have hb2 : ∀ (l2391 : (List Int)), merge_New_b2 a0 l2277 l2391 = some y → ∀ (ac : Act) (w : World), FR 125 [] ac [(4, .pointer (some ⟨g109, 0, none⟩)), (8, .int .i64 (a0.length : Int)), (9, .slice (some ⟨g2287, 0, none⟩) ((IntKind.i64.wrap (2 * (a0.length : Int))).toNat) ((IntKind.i64.wrap (2 * (a0.length : Int))).toNat))] → SH r (blk g109 48 [.slice A2278 n2279 c2280, .slice (some ⟨g2284, 0, none⟩) ((a0.length : Int).toNat) ((a0.length : Int).toNat)] :: own (kM Z wz k30) 25 A2278 n2279 c2280 l2277 :: own (kI .i64) 3 (some ⟨g2284, 0, none⟩) ((a0.length : Int).toNat) ((a0.length : Int).toNat) (List.replicate (a0.length : Int).toNat 0) :: own (kI .i64) 3 (some ⟨g2287, 0, none⟩) ((IntKind.i64.wrap (2 * (a0.length : Int))).toNat) ((IntKind.i64.wrap (2 * (a0.length : Int))).toNat) l2391 :: L) w → Kx2358 ac w := by
        intro l2391 hF ac w hA hS
        unfold merge_New_b2 at hF
        refine hKx2358 _ _ ?_
        refine hK2288 _ _ ?_
        refine wp_seq_k fun K2392 hK2392 => ?_
        refine wp_seq_k fun K2773 hK2773 => ?_
        refine wp_reg ?_
        refine x_move hA (fun ac hA => ?_) rfl rfl rfl rfl rfl
        refine x_val hA (r_sub rfl (hA.ev rfl) (hA.ev rfl)) (fun ac hA => ?_) rfl rfl rfl
        refine x_assign hA (fun ac hA => ?_) rfl rfl rfl rfl rfl
        refine wpList_nil ?_
        refine hK2773 _ _ ?_
        refine wp_block_k fun Kx2774 hKx2774 => ?_
        have hb3 : ∀ (l2959 : (List (List S30))) (l2963 : (List Int)) (l2967 : (List Int)), merge_New_b3 a0 l2959 l2963 l2967 = some y → ∀ (A2960 : Option Addr) (n2961 : Nat) (c2962 : Nat) (A2964 : Option Addr) (n2965 : Nat) (c2966 : Nat) (ac : Act) (w : World), FR 125 [] ac [(4, .pointer (some ⟨g109, 0, none⟩)), (8, .int .i64 (a0.length : Int)), (9, .slice (some ⟨g2287, 0, none⟩) ((IntKind.i64.wrap (2 * (a0.length : Int))).toNat) ((IntKind.i64.wrap (2 * (a0.length : Int))).toNat))] → SH r (blk g109 48 [.slice A2960 n2961 c2962, .slice A2964 n2965 c2966] :: own (kM Z wz k30) 25 A2960 n2961 c2962 l2959 :: own (kI .i64) 3 A2964 n2965 c2966 l2963 :: own (kI .i64) 3 (some ⟨g2287, 0, none⟩) ((IntKind.i64.wrap (2 * (a0.length : Int))).toNat) ((IntKind.i64.wrap (2 * (a0.length : Int))).toNat) l2967 :: L) w → Kx2774 ac w := by
          intro l2959 l2963 l2967 hF A2960 n2961 c2962 A2964 n2965 c2966 ac w hA hS
          unfold merge_New_b3 at hF
          refine hKx2774 _ _ ?_
          refine hK2392 _ _ ?_
          refine wp_seq_k fun K2968 hK2968 => ?_
          refine wp_draw [0, 1, 3, 7, 0, 0, 32, 96, 224, 496, 1008, 2047, 4095] [12] rfl hA hS (by kernel_rfl) (by kernel_rfl) (by kernel_rfl) (by kernel_rfl) fun w hS => ?_
          obtain ⟨x2969, h2970, hF⟩ := bnd hF
          obtain ⟨cs, hV, hc2971⟩ := el (hS.rd 3 rfl) h2970
          obtain rfl := hV
          obtain ⟨x2972, h2973, hF⟩ := bnd hF
          refine ⟨[(0, .pointer (some ⟨g109, 0, none⟩)), (1, .pointer (some ⟨g109, 0, none⟩)), (2, .pointer (some ⟨g109, 1, none⟩)), (3, .slice A2964 n2965 c2966), (4, .slice (some ⟨g2287, 0, none⟩) ((IntKind.i64.wrap (2 * (a0.length : Int))).toNat) ((IntKind.i64.wrap (2 * (a0.length : Int))).toNat)), (5, .int .i64 (a0.length : Int)), (6, .int .i64 (IntKind.i64.wrap (2 * (a0.length : Int)))), (7, .int .i64 (IntKind.i64.wrap ((IntKind.i64.wrap (2 * (a0.length : Int))) - 1))), (8, .int .i64 (if IntKind.i64.wrap ((IntKind.i64.wrap (2 * (a0.length : Int))) - 1) < 1 then IntKind.i64.wrap ((IntKind.i64.wrap (2 * (a0.length : Int))) - 1) else 1)), (9, .pointer (some (ea (some ⟨g2287, 0, none⟩) ((if IntKind.i64.wrap ((IntKind.i64.wrap (2 * (a0.length : Int))) - 1) < 1 then IntKind.i64.wrap ((IntKind.i64.wrap (2 * (a0.length : Int))) - 1) else 1).toNat * 1)))), (10, .int .i64 x2969), (11, .pointer (some (ea A2964 ((0 : Int).toNat * 1))))], ?_⟩
          refine dEff [0, 1, 2, 3, 4, 5, 6, 7, 8, 9, 10, 11] [12] (by kernel_rfl) ⟨pu rfl rfl [(4, .pointer (some ⟨g109, 0, none⟩))] (fun ac hA => y_move hA rfl rfl) rfl rfl, pu rfl rfl [(112, .pointer (some ⟨g109, 0, none⟩))] (fun ac hA => r_nilCheck rfl (hA.ev rfl)) rfl rfl, pu rfl rfl [(113, .pointer (some ⟨g109, 0, none⟩))] (fun ac hA => y_fab fa48_1 hA rfl rfl) rfl rfl, pu rfl rfl [(114, .pointer (some ⟨g109, 1, none⟩))] (fun ac hA => y_ld Try.underlying41 (hS.cell 0 rfl 1 _ rfl) hA rfl rfl rfl) rfl rfl, pu rfl rfl [(9, .slice (some ⟨g2287, 0, none⟩) ((IntKind.i64.wrap (2 * (a0.length : Int))).toNat) ((IntKind.i64.wrap (2 * (a0.length : Int))).toNat))] (fun ac hA => y_move hA rfl rfl) rfl rfl, pu rfl rfl [(8, .int .i64 (a0.length : Int))] (fun ac hA => y_move hA rfl rfl) rfl rfl, pu rfl rfl [(117, .int .i64 (a0.length : Int))] (fun ac hA => r_mul rfl (hA.ev rfl) (hA.ev rfl)) rfl rfl, pu rfl rfl [(118, .int .i64 (IntKind.i64.wrap (2 * (a0.length : Int))))] (fun ac hA => r_sub rfl (hA.ev rfl) (hA.ev rfl)) rfl rfl, pu rfl rfl [(119, .int .i64 (IntKind.i64.wrap ((IntKind.i64.wrap (2 * (a0.length : Int))) - 1)))] (fun ac hA => r_minI rfl (hA.ev rfl) (hA.ev rfl)) rfl rfl, pu rfl rfl [(116, .slice (some ⟨g2287, 0, none⟩) ((IntKind.i64.wrap (2 * (a0.length : Int))).toNat) ((IntKind.i64.wrap (2 * (a0.length : Int))).toNat)), (120, .int .i64 (if IntKind.i64.wrap ((IntKind.i64.wrap (2 * (a0.length : Int))) - 1) < 1 then IntKind.i64.wrap ((IntKind.i64.wrap (2 * (a0.length : Int))) - 1) else 1))] (fun ac hA => y_ia Try.underlying41 sz3 (hS.rd 3 rfl) h2970 hA rfl rfl rfl) rfl rfl, pu rfl rfl [(121, .pointer (some (ea (some ⟨g2287, 0, none⟩) ((if IntKind.i64.wrap ((IntKind.i64.wrap (2 * (a0.length : Int))) - 1) < 1 then IntKind.i64.wrap ((IntKind.i64.wrap (2 * (a0.length : Int))) - 1) else 1).toNat * 1))))] (fun ac hA => y_ld Try.underlying3 (hc2971 0 _ rfl) hA rfl rfl rfl) rfl rfl, pu rfl rfl [(115, .slice A2964 n2965 c2966)] (fun ac hA => y_ia Try.underlying41 sz3 (hS.rd 2 rfl) h2973 hA rfl rfl rfl) rfl rfl, trivial⟩ (by kernel_rfl) (by kernel_rfl) ⟨ef rfl [(122, .int .i64 x2969), (123, .pointer (some (ea A2964 ((0 : Int).toNat * 1))))] (fun ac hA K hK => ?_) rfl rfl, trivial⟩
          refine z_sto (z' := x2969) (off := 0) (vs := [.int .i64 x2969]) 2 sz3 hA hS rfl (at_some h2973).2.2 (fun c h => by cases h; rfl) (fun  w hS => ?_) rfl rfl rfl rfl rfl rfl
          refine hK _ [] _ rfl ?_
          refine dEnd [] (by kernel_rfl) trivial ⟨by kernel_rfl, by kernel_rfl⟩ [(4, .pointer (some ⟨g109, 0, none⟩))] rfl (fun ac hA => ?_)
          refine hK2968 _ _ ?_
          refine wp_seq_k fun K2974 hK2974 => ?_
          refine wp_reg ?_
          refine x_move hA (fun ac hA => ?_) rfl rfl rfl rfl rfl
          refine x_assign hA (fun ac hA => ?_) rfl rfl rfl rfl rfl
          refine x_assign hA (fun ac hA => ?_) rfl rfl rfl rfl rfl
          refine wpList_nil ?_
          refine hK2974 _ _ ?_
          refine wp_ret ?_
          replace hS := hS.pk 2
          replace hS := hS.pk 2
          replace hS := obj48_mk (x := (⟨l2959, l2963.set (0 : Int).toNat x2969⟩ : S48)) hS
          replace hS := SH.optS hS
          replace hS := hS.drop 1
          cases hF
          refine hQ _ _ ?_
          refine lv2 Try.results13 hA rfl rfl ?_
          exact ⟨some ⟨g109, 0, none⟩, rfl, hS⟩
        obtain ⟨t3109, hl3109, hF⟩ := bnd hF
        have hx3109_6 : ∀ (l3101 : (List (List S30))) (l3105 : (List Int)) (l3109 : (List Int)), (l3101, l3105, l3109) = t3109 → ∀ (A3102 : Option Addr) (n3103 : Nat) (c3104 : Nat) (A3106 : Option Addr) (n3107 : Nat) (c3108 : Nat) (ac : Act) (w : World), FR 125 [] ac [(4, .pointer (some ⟨g109, 0, none⟩)), (8, .int .i64 (a0.length : Int)), (9, .slice (some ⟨g2287, 0, none⟩) ((IntKind.i64.wrap (2 * (a0.length : Int))).toNat) ((IntKind.i64.wrap (2 * (a0.length : Int))).toNat))] → SH r (blk g109 48 [.slice A3102 n3103 c3104, .slice A3106 n3107 c3108] :: own (kM Z wz k30) 25 A3102 n3103 c3104 l3101 :: own (kI .i64) 3 A3106 n3107 c3108 l3105 :: own (kI .i64) 3 (some ⟨g2287, 0, none⟩) ((IntKind.i64.wrap (2 * (a0.length : Int))).toNat) ((IntKind.i64.wrap (2 * (a0.length : Int))).toNat) l3109 :: L) w → Kx2774 ac w := by
          intro l3101 l3105 l3109 ht A3102 n3103 c3104 A3106 n3107 c3108 ac w hA hS
          subst ht
          replace hF : merge_New_x1_6 a0 l3101 l3105 l3109 = some y := hF
          unfold merge_New_x1_6 at hF
          exact hb3 l3101 l3105 l3109 hF A3102 n3103 c3104 A3106 n3107 c3108 ac w (hA.sub _ rfl) hS
        refine wp_loop_fn hl3109 (fun s ac w => ∃ (A3034 : Option Addr) (n3035 : Nat) (c3036 : Nat) (A3038 : Option Addr) (n3039 : Nat) (c3040 : Nat), FR 125 [] ac [(4, .pointer (some ⟨g109, 0, none⟩)), (8, .int .i64 (a0.length : Int)), (9, .slice (some ⟨g2287, 0, none⟩) ((IntKind.i64.wrap (2 * (a0.length : Int))).toNat) ((IntKind.i64.wrap (2 * (a0.length : Int))).toNat)), (11, .int .i64 s.2.2.2)] ∧ SH r (blk g109 48 [.slice A3034 n3035 c3036, .slice A3038 n3039 c3040] :: own (kM Z wz k30) 25 A3034 n3035 c3036 s.1 :: own (kI .i64) 3 A3038 n3039 c3040 s.2.1 :: own (kI .i64) 3 (some ⟨g2287, 0, none⟩) ((IntKind.i64.wrap (2 * (a0.length : Int))).toNat) ((IntKind.i64.wrap (2 * (a0.length : Int))).toNat) s.2.2.1 :: L) w) ⟨A2278, n2279, c2280, (some ⟨g2284, 0, none⟩), (a0.length : Int).toNat, (a0.length : Int).toNat, hA.sub _ rfl, hS⟩ ?_
        intro N3109 s3109 o3109 hF N3109_ T3109_ ac w hLab
        obtain ⟨l3033, l3037, l3041, x3042⟩ := s3109
        replace hF : merge_New_l1 l3033 l3037 l3041 x3042 = some o3109 := hF
        unfold merge_New_l1 at hF
        try dsimp only at hLab
        obtain ⟨A3034, n3035, c3036, A3038, n3039, c3040, hA, hS⟩ := hLab
        refine wp_seq_k fun K3111 hK3111 => ?_
        refine wp_seq_k fun K3112 hK3112 => ?_
        refine wp_reg ?_
        refine x_move hA (fun ac hA => ?_) rfl rfl rfl rfl rfl
        refine x_val hA (r_gtI rfl (hA.ev rfl) (hA.ev rfl)) (fun ac hA => ?_) rfl rfl rfl
        refine wpList_nil ?_
        refine hK3112 _ _ ?_
        refine c_if hA rfl (fun hb3113 => ?_) fun hb3113 => ?_
        · replace hF := ift hb3113 hF
          refine wp_skip ?_
          refine hK3111 _ _ ?_
          refine wp_seq_k fun K3114 hK3114 => ?_
          refine wp_block_k fun Kx3115 hKx3115 => ?_
          refine wp_seq_k fun K3116 hK3116 => ?_
          refine wp_draw [0, 0, 2, 7, 15, 0, 0, 64, 192, 480, 992, 31, 4095] [] rfl hA hS (by kernel_rfl) (by kernel_rfl) (by kernel_rfl) (by kernel_rfl) fun w hS => ?_
          obtain ⟨x3117, h3118, hF⟩ := bnd hF
          obtain ⟨cs, hV, hc3119⟩ := el (hS.rd 3 rfl) h3118
          obtain rfl := hV
          obtain ⟨x3120, h3121, hF⟩ := bnd hF
          obtain ⟨cs, hV, hc3122⟩ := el (hS.rd 3 rfl) h3121
          obtain rfl := hV
          refine ⟨[(0, .slice (some ⟨g2287, 0, none⟩) ((IntKind.i64.wrap (2 * (a0.length : Int))).toNat) ((IntKind.i64.wrap (2 * (a0.length : Int))).toNat)), (1, .int .i64 x3042), (2, .int .i64 (IntKind.i64.wrap (2 * x3042))), (3, .pointer (some (ea (some ⟨g2287, 0, none⟩) ((IntKind.i64.wrap (2 * x3042)).toNat * 1)))), (4, .int .i64 x3117), (5, .slice (some ⟨g2287, 0, none⟩) ((IntKind.i64.wrap (2 * (a0.length : Int))).toNat) ((IntKind.i64.wrap (2 * (a0.length : Int))).toNat)), (6, .int .i64 x3042), (7, .int .i64 (IntKind.i64.wrap (2 * x3042))), (8, .int .i64 (IntKind.i64.wrap ((IntKind.i64.wrap (2 * x3042)) + 1))), (9, .pointer (some (ea (some ⟨g2287, 0, none⟩) ((IntKind.i64.wrap ((IntKind.i64.wrap (2 * x3042)) + 1)).toNat * 1)))), (10, .int .i64 x3120), (11, .int .i64 x3117), (12, .int .i64 x3120)], ?_⟩
          refine dEnd [0, 1, 2, 3, 4, 5, 6, 7, 8, 9, 10, 11, 12] (by kernel_rfl) ⟨pu rfl rfl [(9, .slice (some ⟨g2287, 0, none⟩) ((IntKind.i64.wrap (2 * (a0.length : Int))).toNat) ((IntKind.i64.wrap (2 * (a0.length : Int))).toNat))] (fun ac hA => y_move hA rfl rfl) rfl rfl, pu rfl rfl [(11, .int .i64 x3042)] (fun ac hA => y_move hA rfl rfl) rfl rfl, pu rfl rfl [(85, .int .i64 x3042)] (fun ac hA => r_mul rfl (hA.ev rfl) (hA.ev rfl)) rfl rfl, pu rfl rfl [(84, .slice (some ⟨g2287, 0, none⟩) ((IntKind.i64.wrap (2 * (a0.length : Int))).toNat) ((IntKind.i64.wrap (2 * (a0.length : Int))).toNat)), (86, .int .i64 (IntKind.i64.wrap (2 * x3042)))] (fun ac hA => y_ia Try.underlying41 sz3 (hS.rd 3 rfl) h3118 hA rfl rfl rfl) rfl rfl, pu rfl rfl [(87, .pointer (some (ea (some ⟨g2287, 0, none⟩) ((IntKind.i64.wrap (2 * x3042)).toNat * 1))))] (fun ac hA => y_ld Try.underlying3 (hc3119 0 _ rfl) hA rfl rfl rfl) rfl rfl, pu rfl rfl [(9, .slice (some ⟨g2287, 0, none⟩) ((IntKind.i64.wrap (2 * (a0.length : Int))).toNat) ((IntKind.i64.wrap (2 * (a0.length : Int))).toNat))] (fun ac hA => y_move hA rfl rfl) rfl rfl, pu rfl rfl [(11, .int .i64 x3042)] (fun ac hA => y_move hA rfl rfl) rfl rfl, pu rfl rfl [(90, .int .i64 x3042)] (fun ac hA => r_mul rfl (hA.ev rfl) (hA.ev rfl)) rfl rfl, pu rfl rfl [(91, .int .i64 (IntKind.i64.wrap (2 * x3042)))] (fun ac hA => r_add rfl (hA.ev rfl) (hA.ev rfl)) rfl rfl, pu rfl rfl [(89, .slice (some ⟨g2287, 0, none⟩) ((IntKind.i64.wrap (2 * (a0.length : Int))).toNat) ((IntKind.i64.wrap (2 * (a0.length : Int))).toNat)), (92, .int .i64 (IntKind.i64.wrap ((IntKind.i64.wrap (2 * x3042)) + 1)))] (fun ac hA => y_ia Try.underlying41 sz3 (hS.rd 3 rfl) h3121 hA rfl rfl rfl) rfl rfl, pu rfl rfl [(93, .pointer (some (ea (some ⟨g2287, 0, none⟩) ((IntKind.i64.wrap ((IntKind.i64.wrap (2 * x3042)) + 1)).toNat * 1))))] (fun ac hA => y_ld Try.underlying3 (hc3122 0 _ rfl) hA rfl rfl rfl) rfl rfl, pu rfl rfl [(88, .int .i64 x3117)] (fun ac hA => y_assign hA rfl rfl) rfl rfl, pu rfl rfl [(94, .int .i64 x3120)] (fun ac hA => y_assign hA rfl rfl) rfl rfl, trivial⟩ ⟨by kernel_rfl, by kernel_rfl⟩ [(4, .pointer (some ⟨g109, 0, none⟩)), (8, .int .i64 (a0.length : Int)), (9, .slice (some ⟨g2287, 0, none⟩) ((IntKind.i64.wrap (2 * (a0.length : Int))).toNat) ((IntKind.i64.wrap (2 * (a0.length : Int))).toNat)), (11, .int .i64 x3042), (12, .int .i64 x3117), (13, .int .i64 x3120)] rfl (fun ac hA => ?_)
          refine hK3116 _ _ ?_
          refine wp_seq_k fun K3123 hK3123 => ?_
          have hj2 : ∀ (l3134 : (List (List S30))) (l3138 : (List Int)) (x3142 : Int) (x3143 : Int), merge_New_j2 l3041 x3042 l3134 l3138 x3142 x3143 = some o3109 → ∀ (A3135 : Option Addr) (n3136 : Nat) (c3137 : Nat) (A3139 : Option Addr) (n3140 : Nat) (c3141 : Nat) (ac : Act) (w : World), FR 125 [] ac [(4, .pointer (some ⟨g109, 0, none⟩)), (8, .int .i64 (a0.length : Int)), (9, .slice (some ⟨g2287, 0, none⟩) ((IntKind.i64.wrap (2 * (a0.length : Int))).toNat) ((IntKind.i64.wrap (2 * (a0.length : Int))).toNat)), (11, .int .i64 x3042), (12, .int .i64 x3142), (13, .int .i64 x3143)] → SH r (blk g109 48 [.slice A3135 n3136 c3137, .slice A3139 n3140 c3141] :: own (kM Z wz k30) 25 A3135 n3136 c3137 l3134 :: own (kI .i64) 3 A3139 n3140 c3141 l3138 :: own (kI .i64) 3 (some ⟨g2287, 0, none⟩) ((IntKind.i64.wrap (2 * (a0.length : Int))).toNat) ((IntKind.i64.wrap (2 * (a0.length : Int))).toNat) l3041 :: L) w → K3123 ac w := by
            intro l3134 l3138 x3142 x3143 hF A3135 n3136 c3137 A3139 n3140 c3141 ac w hA hS
            unfold merge_New_j2 at hF
            refine hK3123 _ _ ?_
            refine wp_reg ?_
            refine x_move hA (fun ac hA => ?_) rfl rfl rfl rfl rfl
            refine x_move hA (fun ac hA => ?_) rfl rfl rfl rfl rfl
            refine x_move hA (fun ac hA => ?_) rfl rfl rfl rfl rfl
            refine x_val hA (r_nilCheck rfl (hA.ev rfl)) (fun ac hA => ?_) rfl rfl rfl
            refine x_fab fa48_1 hA (fun ac hA => ?_) rfl rfl rfl rfl rfl
            refine x_ld Try.underlying41 (hS.cell 0 rfl 1 _ rfl) hA (fun ac hA => ?_) rfl rfl rfl rfl rfl rfl
            refine x_move hA (fun ac hA => ?_) rfl rfl rfl rfl rfl
            refine x_move hA (fun ac hA => ?_) rfl rfl rfl rfl rfl
            refine x_move hA (fun ac hA => ?_) rfl rfl rfl rfl rfl
            obtain ⟨x3144, h3145, hF⟩ := bnd hF
            refine x_ia Try.underlying41 sz3 (hS.rd 3 rfl) h3145 hA (fun ac hA => ?_) rfl rfl rfl rfl rfl rfl
            refine x_sto (z' := x3142) (off := 0) (vs := [.int .i64 x3142]) 3 sz3 hA hS rfl (at_some h3145).2.2 (fun c h => by cases h; rfl) (fun  ac w hS hA => ?_) rfl rfl rfl rfl rfl rfl rfl rfl
            obtain ⟨x3146, h3147, hF⟩ := bnd hF
            refine x_ia Try.underlying41 sz3 (hS.rd 3 rfl) h3147 hA (fun ac hA => ?_) rfl rfl rfl rfl rfl rfl
            refine x_sto (z' := x3143) (off := 0) (vs := [.int .i64 x3143]) 3 sz3 hA hS rfl (at_some h3147).2.2 (fun c h => by cases h; rfl) (fun  ac w hS hA => ?_) rfl rfl rfl rfl rfl rfl rfl rfl
            refine wpList_nil ?_
            refine hKx3115 _ _ ?_
            refine hK3114 _ _ ?_
            refine wp_reg ?_
            refine x_move hA (fun ac hA => ?_) rfl rfl rfl rfl rfl
            refine x_val hA (r_sub rfl (hA.ev rfl) (hA.ev rfl)) (fun ac hA => ?_) rfl rfl rfl
            refine x_assign hA (fun ac hA => ?_) rfl rfl rfl rfl rfl
            refine wpList_nil ?_
            replace hS := hS.pk 1
            replace hS := hS.pk 1
            replace hS := hS.pk 3
            replace hS := hS.pk 3
            cases hF
            exact ⟨_, N3109_ _ rfl, A3135, n3136, c3137, A3139, n3140, c3141, hA.sub _ rfl, hS⟩
          refine wp_seq_k fun K3148 hK3148 => ?_
          refine wp_reg ?_
          refine x_move hA (fun ac hA => ?_) rfl rfl rfl rfl rfl
          refine x_move hA (fun ac hA => ?_) rfl rfl rfl rfl rfl
          refine x_move hA (fun ac hA => ?_) rfl rfl rfl rfl rfl
          replace hS := hS.pk 2
          replace hS := hS.pk 2
          replace hS := hS.pk 2
          replace hS := obj48_mk (x := (⟨l3033, l3037⟩ : S48)) hS
          obtain ⟨y3149, h3150, hF⟩ := bnd hF
          refine x_call en25 hA (F_merge_Tree_ahead (L := own (kI .i64) 3 (some ⟨g2287, 0, none⟩) ((IntKind.i64.wrap (2 * (a0.length : Int))).toNat) ((IntKind.i64.wrap (2 * (a0.length : Int))).toNat) l3041 :: L) (⟨l3033, l3037⟩ : S48) x3120 x3117 g109 h3150 (qz + 1) hZ hS) (fun v ac w hR hA => ?_) rfl rfl rfl rfl rfl
          obtain ⟨rfl, hS⟩ := hR
          obtain ⟨A3151, n3152, c3153, A3154, n3155, c3156, hS⟩ := obj48_open hS
          refine wpList_nil ?_
          refine hK3148 _ _ ?_
          refine c_if hA rfl (fun hb3157 => ?_) fun hb3157 => ?_
          · replace hF := ift hb3157 hF
            refine wp_reg ?_
            refine x_move hA (fun ac hA => ?_) rfl rfl rfl rfl rfl
            refine x_move hA (fun ac hA => ?_) rfl rfl rfl rfl rfl
            refine x_assign hA (fun ac hA => ?_) rfl rfl rfl rfl rfl
            refine x_assign hA (fun ac hA => ?_) rfl rfl rfl rfl rfl
            refine wpList_nil ?_
            exact hj2 y3149.2.f0 y3149.2.f1 x3120 x3117 hF A3151 n3152 c3153 A3154 n3155 c3156 ac w (hA.sub _ rfl) hS
          replace hF := iff' hb3157 hF
          refine wp_skip ?_
          exact hj2 y3149.2.f0 y3149.2.f1 x3117 x3120 hF A3151 n3152 c3153 A3154 n3155 c3156 ac w (hA.sub _ rfl) hS
        replace hF := iff' hb3113 hF
        refine wp_exit ?_
        cases hF
        exact hx3109_6 l3033 l3037 l3041 (T3109_ _ rfl) A3034 n3035 c3036 A3038 n3039 c3040 ac w (hA.sub _ rfl) hS
      obtain ⟨t3180, hl3180, hF⟩ := bnd hF
      have hx3180_4 : ∀ (l3180 : (List Int)), (l3180) = t3180 → ∀ (ac : Act) (w : World), FR 125 [] ac [(4, .pointer (some ⟨g109, 0, none⟩)), (8, .int .i64 (a0.length : Int)), (9, .slice (some ⟨g2287, 0, none⟩) ((IntKind.i64.wrap (2 * (a0.length : Int))).toNat) ((IntKind.i64.wrap (2 * (a0.length : Int))).toNat))] → SH r (blk g109 48 [.slice A2278 n2279 c2280, .slice (some ⟨g2284, 0, none⟩) ((a0.length : Int).toNat) ((a0.length : Int).toNat)] :: own (kM Z wz k30) 25 A2278 n2279 c2280 l2277 :: own (kI .i64) 3 (some ⟨g2284, 0, none⟩) ((a0.length : Int).toNat) ((a0.length : Int).toNat) (List.replicate (a0.length : Int).toNat 0) :: own (kI .i64) 3 (some ⟨g2287, 0, none⟩) ((IntKind.i64.wrap (2 * (a0.length : Int))).toNat) ((IntKind.i64.wrap (2 * (a0.length : Int))).toNat) l3180 :: L) w → Kx2358 ac w := by
        intro l3180 ht ac w hA hS
        subst ht
        replace hF : merge_New_x2_4 a0 l2277 l3180 = some y := hF
        unfold merge_New_x2_4 at hF
        exact hb2 l3180 hF ac w (hA.sub _ rfl) hS
      replace hS := hS.pk 2
      replace hS := hS.pk 3
      replace hS := hS.pk 3
      refine wp_loop_fn hl3180 (fun s ac w => FR 125 [] ac [(4, .pointer (some ⟨g109, 0, none⟩)), (8, .int .i64 (a0.length : Int)), (9, .slice (some ⟨g2287, 0, none⟩) ((IntKind.i64.wrap (2 * (a0.length : Int))).toNat) ((IntKind.i64.wrap (2 * (a0.length : Int))).toNat)), (67, .int .i64 (a0.length : Int)), (68, .int .i64 s.2)] ∧ SH r (blk g109 48 [.slice A2278 n2279 c2280, .slice (some ⟨g2284, 0, none⟩) ((a0.length : Int).toNat) ((a0.length : Int).toNat)] :: own (kM Z wz k30) 25 A2278 n2279 c2280 l2277 :: own (kI .i64) 3 (some ⟨g2284, 0, none⟩) ((a0.length : Int).toNat) ((a0.length : Int).toNat) (List.replicate (a0.length : Int).toNat 0) :: own (kI .i64) 3 (some ⟨g2287, 0, none⟩) ((IntKind.i64.wrap (2 * (a0.length : Int))).toNat) ((IntKind.i64.wrap (2 * (a0.length : Int))).toNat) s.1 :: L) w) ⟨hA.sub _ rfl, hS⟩ ?_
      intro N3180 s3180 o3180 hF N3180_ T3180_ ac w hLab
      obtain ⟨l3168, x3169⟩ := s3180
      replace hF : merge_New_l2 a0 l3168 x3169 = some o3180 := hF
      unfold merge_New_l2 at hF
      try dsimp only at hLab
      obtain ⟨hA, hS⟩ := hLab
      refine wp_seq_k fun K3182 hK3182 => ?_
      refine wp_reg ?_
      refine x_val hA (r_ltI rfl (hA.ev rfl) (hA.ev rfl)) (fun ac hA => ?_) rfl rfl rfl
      refine wpList_nil ?_
      refine hK3182 _ _ ?_
      refine wp_seq_k fun K3183 hK3183 => ?_
      refine c_if hA rfl (fun hb3184 => ?_) fun hb3184 => ?_
      · replace hF := ift hb3184 hF
        refine wp_skip ?_
        refine hK3183 _ _ ?_
        refine wp_seq_k fun K3185 hK3185 => ?_
        refine wp_block_k fun Kx3186 hKx3186 => ?_
        refine wp_seq_k fun K3187 hK3187 => ?_
        refine wp_reg ?_
        refine x_move hA (fun ac hA => ?_) rfl rfl rfl rfl rfl
        refine x_assign hA (fun ac hA => ?_) rfl rfl rfl rfl rfl
        refine wpList_nil ?_
        refine hK3187 _ _ ?_
        refine wp_reg ?_
        refine x_move hA (fun ac hA => ?_) rfl rfl rfl rfl rfl
        refine x_move hA (fun ac hA => ?_) rfl rfl rfl rfl rfl
        refine x_move hA (fun ac hA => ?_) rfl rfl rfl rfl rfl
        refine x_val hA (r_add rfl (hA.ev rfl) (hA.ev rfl)) (fun ac hA => ?_) rfl rfl rfl
        refine x_move hA (fun ac hA => ?_) rfl rfl rfl rfl rfl
        obtain ⟨x3188, h3189, hF⟩ := bnd hF
        refine x_ia Try.underlying41 sz3 (hS.rd 3 rfl) h3189 hA (fun ac hA => ?_) rfl rfl rfl rfl rfl rfl
        refine x_sto (z' := x3169) (off := 0) (vs := [.int .i64 x3169]) 3 sz3 hA hS rfl (at_some h3189).2.2 (fun c h => by cases h; rfl) (fun  ac w hS hA => ?_) rfl rfl rfl rfl rfl rfl rfl rfl
        refine wpList_nil ?_
        refine hKx3186 _ _ ?_
        refine hK3185 _ _ ?_
        refine wp_reg ?_
        refine x_val hA (r_add rfl (hA.ev rfl) (hA.ev rfl)) (fun ac hA => ?_) rfl rfl rfl
        refine x_move hA (fun ac hA => ?_) rfl rfl rfl rfl rfl
        refine wpList_nil ?_
        replace hS := hS.pk 3
        replace hS := hS.pk 3
        replace hS := hS.pk 3
        cases hF
        exact ⟨_, N3180_ _ rfl, hA.sub _ rfl, hS⟩
      replace hF := iff' hb3184 hF
      refine wp_exit ?_
      cases hF
      exact hx3180_4 l3168 (T3180_ _ rfl) ac w (hA.sub _ rfl) hS
    obtain ⟨t3674, hl3674, hF⟩ := bnd hF
    have hR3674 := hF
    have hx3674_0 : ∀ (l3671 : (List (List S30))), (.inl (l3671)) = t3674 → ∀ (A3672 : Option Addr) (n3673 : Nat) (c3674 : Nat) (ac : Act) (w : World), FR 125 [] ac [(0, .slice A0 n0 c0), (4, .pointer (some ⟨g109, 0, none⟩))] → SH r (blk g109 48 [.slice A3672 n3673 c3674, .slice none 0 0] :: own (kM Z wz k30) 25 A3672 n3673 c3674 l3671 :: L) w → Kx1557 ac w := by
      intro l3671 ht A3672 n3673 c3674 ac w hA hS
      subst ht
      replace hF : merge_New_x3_0 a0 l3671 = some y := hF
      unfold merge_New_x3_0 at hF
      exact hb1 l3671 hF A3672 n3673 c3674 ac w (hA.sub _ rfl) hS
    replace hS := SH.nil_own (d := (kM Z wz k30)) (e := 25) hS
    replace hS := hS.pk 1
    refine wp_loop_fn hl3674 (fun s ac w => ∃ (A3429 : Option Addr) (n3430 : Nat) (c3431 : Nat), FR 125 [] ac [(0, .slice A0 n0 c0), (4, .pointer (some ⟨g109, 0, none⟩)), (24, .slice A0 n0 c0), (25, .int .i64 (a0.length : Int)), (26, .int .i64 s.2)] ∧ SH r (blk g109 48 [.slice A3429 n3430 c3431, .slice none 0 0] :: own (kM Z wz k30) 25 A3429 n3430 c3431 s.1 :: L) w) ⟨none, 0, 0, hA.sub _ rfl, hS⟩ ?_
    intro N3674 s3674 o3674 hF N3674_ T3674_ ac w hLab
    obtain ⟨l3428, x3432⟩ := s3674
    replace hF : merge_New_l3 a0 l3428 x3432 = some o3674 := hF
    unfold merge_New_l3 at hF
    try dsimp only at hLab
    obtain ⟨A3429, n3430, c3431, hA, hS⟩ := hLab
    refine wp_seq_k fun K3676 hK3676 => ?_
    refine wp_reg ?_
    refine x_val hA (r_ltI rfl (hA.ev rfl) (hA.ev rfl)) (fun ac hA => ?_) rfl rfl rfl
    refine wpList_nil ?_
    refine hK3676 _ _ ?_
    refine wp_seq_k fun K3677 hK3677 => ?_
    refine c_if hA rfl (fun hb3678 => ?_) fun hb3678 => ?_
    · replace hF := ift hb3678 hF
      refine wp_skip ?_
      refine hK3677 _ _ ?_
      refine wp_seq_k fun K3679 hK3679 => ?_
      refine wp_block_k fun Kx3680 hKx3680 => ?_
      refine wp_seq_k fun K3681 hK3681 => ?_
      refine wp_reg ?_
      obtain ⟨x3682, h3683, hF⟩ := bnd hF
      refine x_ia Try.underlying22 sz25 (hS.rdl 2 ha0 rfl) h3683 hA (fun ac hA => ?_) rfl rfl rfl rfl rfl rfl
      obtain ⟨cs, hV, hc3684⟩ := el (hS.rdl 2 ha0 rfl) h3683
      obtain ⟨A3685, n3686, c3687, rfl, h3688⟩ := hV
      refine x_ld Try.underlying25 (hc3684 0 _ rfl) hA (fun ac hA => ?_) rfl rfl rfl rfl rfl rfl
      refine x_assign hA (fun ac hA => ?_) rfl rfl rfl rfl rfl
      refine wpList_nil ?_
      refine hK3681 _ _ ?_
      refine wp_seq_k fun K3689 hK3689 => ?_
      refine wp_seq_k fun K3797 hK3797 => ?_
      refine wp_reg ?_
      refine x_assign hA (fun ac hA => ?_) rfl rfl rfl rfl rfl
      refine wpList_nil ?_
      refine hK3797 _ _ ?_
      refine wp_block_k fun Kx3798 hKx3798 => ?_
      have hb4 : merge_New_b4 l3428 x3432 x3682 = some o3674 → ∀ (ac : Act) (w : World), FR 125 [] ac [(0, .slice A0 n0 c0), (4, .pointer (some ⟨g109, 0, none⟩)), (6, .slice A3685 n3686 c3687), (24, .slice A0 n0 c0), (25, .int .i64 (a0.length : Int)), (26, .int .i64 x3432)] → SH r (blk g109 48 [.slice A3429 n3430 c3431, .slice none 0 0] :: own (kM Z wz k30) 25 A3429 n3430 c3431 l3428 :: L) w → Kx3798 ac w := by
        intro hF ac w hA hS
        unfold merge_New_b4 at hF
        refine hKx3798 _ _ ?_
        refine hK3689 _ _ ?_
        refine wp_reg ?_
        refine x_move hA (fun ac hA => ?_) rfl rfl rfl rfl rfl
        refine x_move hA (fun ac hA => ?_) rfl rfl rfl rfl rfl
        refine x_val hA (r_nilCheck rfl (hA.ev rfl)) (fun ac hA => ?_) rfl rfl rfl
        refine x_fab fa48_0 hA (fun ac hA => ?_) rfl rfl rfl rfl rfl
        refine x_ld Try.underlying22 (hS.cell 0 rfl 0 _ rfl) hA (fun ac hA => ?_) rfl rfl rfl rfl rfl rfl
        refine x_move hA (fun ac hA => ?_) rfl rfl rfl rfl rfl
        refine x_bsl (d := (kM Z wz k30)) (e := 25) (ps := #[(0, .slice A3685 n3686 c3687)]) (cells := [.slice A3685 n3686 c3687]) (xs := [x3682]) (fun w => by kernel_rfl) rfl ⟨[.slice A3685 n3686 c3687], _, rfl, ⟨_, _, _, rfl, h3688⟩, rfl⟩ hA hS (fun g3851 ac w hS hA => ?_) rfl rfl rfl rfl rfl rfl
        obtain ⟨h3852, hF⟩ := chk_some hF
        have hr := hS.rd 0 rfl
        refine x_app 2 inf25 Try.underlying22 hA hS hr.1 hr.2.1 h3852 rfl (fun A3853 n3854 c3855 ac w hS hA => ?_) rfl rfl rfl rfl rfl rfl rfl rfl rfl
        refine x_val hA (r_nilCheck rfl (hA.ev rfl)) (fun ac hA => ?_) rfl rfl rfl
        refine x_fab fa48_0 hA (fun ac hA => ?_) rfl rfl rfl rfl rfl
        refine x_stb 2 sz22 hA hS rfl (fun  ac w hS hA => ?_) rfl rfl rfl rfl rfl rfl rfl rfl
        refine wpList_nil ?_
        refine hKx3680 _ _ ?_
        refine hK3679 _ _ ?_
        refine wp_reg ?_
        refine x_val hA (r_add rfl (hA.ev rfl) (hA.ev rfl)) (fun ac hA => ?_) rfl rfl rfl
        refine x_move hA (fun ac hA => ?_) rfl rfl rfl rfl rfl
        refine wpList_nil ?_
        replace hS := hS.drop 2
        cases hF
        exact ⟨_, N3674_ _ rfl, A3853, n3854, c3855, hA.sub _ rfl, hS⟩
      obtain ⟨t3890, hl3890, hF⟩ := bnd hF
      have hR3890 := hF
      have hx3890_2 : (.inl ()) = t3890 → ∀ (ac : Act) (w : World), FR 125 [] ac [(0, .slice A0 n0 c0), (4, .pointer (some ⟨g109, 0, none⟩)), (6, .slice A3685 n3686 c3687), (24, .slice A0 n0 c0), (25, .int .i64 (a0.length : Int)), (26, .int .i64 x3432)] → SH r (blk g109 48 [.slice A3429 n3430 c3431, .slice none 0 0] :: own (kM Z wz k30) 25 A3429 n3430 c3431 l3428 :: L) w → Kx3798 ac w := by
        intro ht ac w hA hS
        subst ht
        replace hF : merge_New_x4_2 l3428 x3432 x3682 = some o3674 := hF
        unfold merge_New_x4_2 at hF
        exact hb4 hF ac w (hA.sub _ rfl) hS
      refine wp_loop_fn hl3890 (fun s ac w => FR 125 [] ac [(0, .slice A0 n0 c0), (4, .pointer (some ⟨g109, 0, none⟩)), (6, .slice A3685 n3686 c3687), (7, .int .i64 s), (24, .slice A0 n0 c0), (25, .int .i64 (a0.length : Int)), (26, .int .i64 x3432)] ∧ SH r (blk g109 48 [.slice A3429 n3430 c3431, .slice none 0 0] :: own (kM Z wz k30) 25 A3429 n3430 c3431 l3428 :: L) w) ⟨hA.sub _ rfl, hS⟩ ?_
      intro N3890 s3890 o3890 hF N3890_ T3890_ ac w hLab
      obtain ⟨x3873, rfl⟩ : ∃ q, q = s3890 := ⟨_, rfl⟩
      replace hF : merge_New_l4 x3682 x3873 = some o3890 := hF
      unfold merge_New_l4 at hF
      try dsimp only at hLab
      obtain ⟨hA, hS⟩ := hLab
      refine wp_seq_k fun K3892 hK3892 => ?_
      refine wp_seq_k fun K3893 hK3893 => ?_
      refine wp_reg ?_
      refine x_move hA (fun ac hA => ?_) rfl rfl rfl rfl rfl
      refine x_move hA (fun ac hA => ?_) rfl rfl rfl rfl rfl
      refine x_len Try.underlying25 (hS.rdl 2 (h3688.rdl qz hZ) rfl).2.1 hA (fun ac hA => ?_) rfl rfl rfl rfl rfl
      refine x_val hA (r_ltI rfl (hA.ev rfl) (hA.ev rfl)) (fun ac hA => ?_) rfl rfl rfl
      refine wpList_nil ?_
      refine hK3893 _ _ ?_
      refine c_if hA rfl (fun hb3894 => ?_) fun hb3894 => ?_
      · replace hF := ift hb3894 hF
        refine wp_skip ?_
        refine hK3892 _ _ ?_
        refine wp_seq_k fun K3895 hK3895 => ?_
        refine wp_block_k fun Kx3896 hKx3896 => ?_
        refine wp_seq_k fun K3897 hK3897 => ?_
        refine wp_draw [0, 0, 3, 7, 0, 0, 32, 112, 240, 511] [9] rfl hA hS (by kernel_rfl) (by kernel_rfl) (by kernel_rfl) (by kernel_rfl) fun w hS => ?_
        obtain ⟨x3898, h3899, hF⟩ := bnd hF
        obtain ⟨cs, hV, hc3900⟩ := el (hS.rdl 2 (h3688.rdl qz hZ) rfl) h3899
        obtain rfl := hV
        obtain ⟨x3901, h3902, hF⟩ := bnd hF
        obtain ⟨cs, hV, hc3903⟩ := el (hS.rdl 2 (h3688.rdl qz hZ) rfl) h3902
        obtain rfl := hV
        refine ⟨[(0, .slice A3685 n3686 c3687), (1, .int .i64 x3873), (2, .pointer (some (ea A3685 (x3873.toNat * 5)))), (3, .agg #[.int .u64 x3898.f0, .int .i64 x3898.f1, .int .i64 x3898.f2, str x3898.f3, .float .f64 x3898.f4]), (4, .slice A3685 n3686 c3687), (5, .int .i64 x3873), (6, .int .i64 (IntKind.i64.wrap (x3873 - 1))), (7, .pointer (some (ea A3685 ((IntKind.i64.wrap (x3873 - 1)).toNat * 5)))), (8, .agg #[.int .u64 x3901.f0, .int .i64 x3901.f1, .int .i64 x3901.f2, str x3901.f3, .float .f64 x3901.f4])], ?_⟩
        refine dEff [0, 1, 2, 3, 4, 5, 6, 7, 8] [9] (by kernel_rfl) ⟨pu rfl rfl [(6, .slice A3685 n3686 c3687)] (fun ac hA => y_move hA rfl rfl) rfl rfl, pu rfl rfl [(7, .int .i64 x3873)] (fun ac hA => y_move hA rfl rfl) rfl rfl, pu rfl rfl [(36, .slice A3685 n3686 c3687), (37, .int .i64 x3873)] (fun ac hA => y_ia Try.underlying25 sz30 (hS.rdl 2 (h3688.rdl qz hZ) rfl) h3899 hA rfl rfl rfl) rfl rfl, pu rfl rfl [(38, .pointer (some (ea A3685 (x3873.toNat * 5))))] (fun ac hA => y_lda (cs := [.int .u64 x3898.f0, .int .i64 x3898.f1, .int .i64 x3898.f2, str x3898.f3, .float .f64 x3898.f4]) Try.underlying30 sz30 (fun j u h => by rw [ea_add]; exact hc3900 _ _ h) hA rfl rfl rfl) rfl rfl, pu rfl rfl [(6, .slice A3685 n3686 c3687)] (fun ac hA => y_move hA rfl rfl) rfl rfl, pu rfl rfl [(7, .int .i64 x3873)] (fun ac hA => y_move hA rfl rfl) rfl rfl, pu rfl rfl [(41, .int .i64 x3873)] (fun ac hA => r_sub rfl (hA.ev rfl) (hA.ev rfl)) rfl rfl, pu rfl rfl [(40, .slice A3685 n3686 c3687), (42, .int .i64 (IntKind.i64.wrap (x3873 - 1)))] (fun ac hA => y_ia Try.underlying25 sz30 (hS.rdl 2 (h3688.rdl qz hZ) rfl) h3902 hA rfl rfl rfl) rfl rfl, pu rfl rfl [(43, .pointer (some (ea A3685 ((IntKind.i64.wrap (x3873 - 1)).toNat * 5))))] (fun ac hA => y_lda (cs := [.int .u64 x3901.f0, .int .i64 x3901.f1, .int .i64 x3901.f2, str x3901.f3, .float .f64 x3901.f4]) Try.underlying30 sz30 (fun j u h => by rw [ea_add]; exact hc3903 _ _ h) hA rfl rfl rfl) rfl rfl, trivial⟩ (by kernel_rfl) (by kernel_rfl) ⟨ef rfl [(39, .agg #[.int .u64 x3898.f0, .int .i64 x3898.f1, .int .i64 x3898.f2, str x3898.f3, .float .f64 x3898.f4]), (44, .agg #[.int .u64 x3901.f0, .int .i64 x3901.f1, .int .i64 x3901.f2, str x3901.f3, .float .f64 x3901.f4])] (fun ac hA K hK => ?_) rfl rfl, trivial⟩
        obtain ⟨y3904, h3905, hF⟩ := bnd hF
        refine z_call en23 hA (F_event_Less (L := blk g109 48 [.slice A3429 n3430 c3431, .slice none 0 0] :: own (kM Z wz k30) 25 A3429 n3430 c3431 l3428 :: L) x3898 x3901 h3905 hS) (fun v w hR => ?_) rfl rfl
        obtain ⟨rfl, hS⟩ := hR
        refine hK _ [] _ rfl ?_
        refine dEnd [] (by kernel_rfl) trivial ⟨by kernel_rfl, by kernel_rfl⟩ [(0, .slice A0 n0 c0), (4, .pointer (some ⟨g109, 0, none⟩)), (6, .slice A3685 n3686 c3687), (7, .int .i64 x3873), (24, .slice A0 n0 c0), (25, .int .i64 (a0.length : Int)), (26, .int .i64 x3432), (45, .bool y3904)] rfl (fun ac hA => ?_)
        refine hK3897 _ _ ?_
        refine c_if hA rfl (fun hb3906 => ?_) fun hb3906 => ?_
        · replace hF := ift hb3906 hF
          refine wp_seq_k fun K3907 hK3907 => ?_
          refine wp_reg ?_
          refine x_assign hA (fun ac hA => ?_) rfl rfl rfl rfl rfl
          refine x_assign hA (fun ac hA => ?_) rfl rfl rfl rfl rfl
          refine wpList_nil ?_
          refine hK3907 _ _ ?_
          refine wp_ret ?_
          replace hS := SH.optN (obj48 Z wz) hS
          replace hS := hS.drop 1
          replace hS := hS.drop 1
          cases hF
          have ht := T3890_ _ rfl
          subst ht
          replace hF := hR3890
          replace hF : some (.inr (.inr (none, 7))) = some o3674 := hF
          cases hF
          have ht := T3674_ _ rfl
          subst ht
          replace hF := hR3674
          replace hF : some (none, 7) = some y := hF
          cases hF
          refine hQ _ _ ?_
          refine lv2 Try.results13 hA rfl rfl ?_
          exact ⟨none, rfl, hS⟩
        replace hF := iff' hb3906 hF
        refine wp_skip ?_
        refine hKx3896 _ _ ?_
        refine hK3895 _ _ ?_
        refine wp_reg ?_
        refine x_move hA (fun ac hA => ?_) rfl rfl rfl rfl rfl
        refine x_val hA (r_add rfl (hA.ev rfl) (hA.ev rfl)) (fun ac hA => ?_) rfl rfl rfl
        refine x_assign hA (fun ac hA => ?_) rfl rfl rfl rfl rfl
        refine wpList_nil ?_
        cases hF
        exact ⟨_, N3890_ _ rfl, hA.sub _ rfl, hS⟩
      replace hF := iff' hb3894 hF
      refine wp_exit ?_
      cases hF
      exact hx3890_2 (T3890_ _ rfl) ac w (hA.sub _ rfl) hS
    replace hF := iff' hb3678 hF
    refine wp_exit ?_
    cases hF
    exact hx3674_0 l3428 (T3674_ _ rfl) A3429 n3430 c3431 ac w (hA.sub _ rfl) hS
  refine wp_reg ?_
  refine x_move hA (fun ac hA => ?_) rfl rfl rfl rfl rfl
  refine x_len Try.underlying22 (hS.rdl 0 ha0 rfl).2.1 hA (fun ac hA => ?_) rfl rfl rfl rfl rfl
  refine x_val hA (r_ltI rfl (hA.ev rfl) (hA.ev rfl)) (fun ac hA => ?_) rfl rfl rfl
  refine x_move hA (fun ac hA => ?_) rfl rfl rfl rfl rfl
  refine bcase (b := decide ((a0.length : Int) < 1)) (fun hb3908 => ?_) fun hb3908 => ?_
  · replace hF := ift hb3908 hF
    refine x_off hb3908 hA (fun ac hA => ?_) rfl rfl rfl rfl rfl
    refine x_off hb3908 hA (fun ac hA => ?_) rfl rfl rfl rfl rfl
    refine x_off hb3908 hA (fun ac hA => ?_) rfl rfl rfl rfl rfl
    refine x_pickt hb3908 hA (fun ac hA => ?_) rfl rfl rfl rfl rfl rfl
    refine wpList_nil ?_
    exact hj1 true hF ac w (hA.sub _ rfl) hS
  replace hF := iff' hb3908 hF
  refine x_on hb3908 hA ?_ rfl rfl rfl
  refine x_move hA (fun ac hA => ?_) rfl rfl rfl rfl rfl
  refine x_on hb3908 hA ?_ rfl rfl rfl
  refine x_len Try.underlying22 (hS.rdl 0 ha0 rfl).2.1 hA (fun ac hA => ?_) rfl rfl rfl rfl rfl
  refine x_on hb3908 hA ?_ rfl rfl rfl
  refine x_val hA (r_gtI rfl (hA.ev rfl) (hA.ev rfl)) (fun ac hA => ?_) rfl rfl rfl
  refine x_pickf hb3908 hA (fun ac hA => ?_) rfl rfl rfl rfl rfl rfl
  refine wpList_nil ?_
  exact hj1 (decide (16 < (a0.length : Int))) hF ac w (hA.sub _ rfl) hS

set_option maxHeartbeats 4000000 in
theorem F_merge_Tree_Next {r : World} {L : List HP} {w : World} {Z : Nat → Prop} {wz : World} (a0 : (Option S48)) (p0 : Option Addr) {y : (S30 × Int × Bool × (Option S48))} (hF : merge_Tree_Next a0 = some y) (qz : Nat) (hZ : L[qz]? = some (zone Z wz)) (hS : SH r (optP (obj48 Z wz) p0 a0 :: L) w) :
    Ret Try.prog 17 #[.pointer p0] w fun v w' => v = .tuple #[(.agg #[.int .u64 y.1.f0, .int .i64 y.1.f1, .int .i64 y.1.f2, str y.1.f3, .float .f64 y.1.f4]), (.int .i64 y.2.1), (.bool y.2.2.1)] ∧ SH r (optP (obj48 Z wz) p0 y.2.2.2 :: L) w' := by
  refine enter Try.func17 rfl Try.ntmps17 [(0, .pointer p0)] rfl (by simp) ?_
  intro ac hA Qf hQ hQn
  unfold merge_Tree_Next at hF
  cases a0 with
  | none =>
    have hU := SH.unoptN hS
    clear hS
    obtain ⟨rfl, hS⟩ := hU
    refine wp_seq_k fun K103 hK103 => ?_
    refine wp_reg ?_
    refine x_alloc (cs := [.int .u64 0, .int .i64 0, .int .i64 0, str [], .float .f64 0]) zr30 hA hS (fun g104 ac w hS hA => ?_) rfl rfl rfl rfl rfl
    refine x_assign hA (fun ac hA => ?_) rfl rfl rfl rfl rfl
    refine x_assign hA (fun ac hA => ?_) rfl rfl rfl rfl rfl
    refine wpList_nil ?_
    refine hK103 _ _ ?_
    refine wp_seq_k fun K105 hK105 => ?_
    refine wp_seq_k fun K106 hK106 => ?_
    refine wp_draw [0, 1, 3, 7, 15, 31, 63, 7, 135, 391, 903, 1927, 3975, 8191, 16383, 32767, 65535, 131071] [] rfl hA hS (by kernel_rfl) (by kernel_rfl) (by kernel_rfl) (by kernel_rfl) fun w hS => ?_
    refine ⟨[(0, .pointer none), (1, .bool true), (2, .bool true), (3, undef), (4, undef), (5, undef), (6, undef), (7, undef), (8, undef), (9, undef), (10, undef), (11, undef), (12, undef), (13, undef), (14, undef), (15, undef), (16, undef), (17, .bool true)], ?_⟩
    refine dEnd [0, 1, 2, 3, 4, 5, 6, 7, 8, 9, 10, 11, 12, 13, 14, 15, 16, 17] (by kernel_rfl) ⟨pu rfl rfl [(0, .pointer none)] (fun ac hA => y_move hA rfl rfl) rfl rfl, pu rfl rfl [(9, .pointer none)] (fun ac hA => (r_eqNilP (p := none) Try.underlying31 rfl (hA.ev rfl) (hA.ev rfl) : RunV _ _ _ _ (.bool true))) rfl rfl, pu rfl rfl [(10, .bool true)] (fun ac hA => y_move hA rfl rfl) rfl rfl, puOff rfl rfl rfl rfl [(0, .pointer none), (11, .bool true)] rfl rfl rfl, puOff rfl rfl rfl rfl [(11, .bool true), (12, undef)] rfl rfl rfl, puOff rfl rfl rfl rfl [(11, .bool true), (13, undef)] rfl rfl rfl, puOff rfl rfl rfl rfl [(11, .bool true), (14, undef)] rfl rfl rfl, puOff rfl rfl rfl rfl [(0, .pointer none), (11, .bool true)] rfl rfl rfl, puOff rfl rfl rfl rfl [(11, .bool true), (16, undef)] rfl rfl rfl, puOff rfl rfl rfl rfl [(11, .bool true), (17, undef)] rfl rfl rfl, puOff rfl rfl rfl rfl [(11, .bool true), (18, undef)] rfl rfl rfl, puOff rfl rfl rfl rfl [(11, .bool true), (19, undef)] rfl rfl rfl, puOff rfl rfl rfl rfl [(11, .bool true), (20, undef)] rfl rfl rfl, puOff rfl rfl rfl rfl [(11, .bool true), (15, undef), (21, undef)] rfl rfl rfl, puOff rfl rfl rfl rfl [(11, .bool true), (22, undef)] rfl rfl rfl, puOff rfl rfl rfl rfl [(11, .bool true), (23, undef)] rfl rfl rfl, puOff rfl rfl rfl rfl [(11, .bool true), (24, undef)] rfl rfl rfl, pu rfl rfl [(11, .bool true), (25, undef)] (fun ac hA => y_pickt rfl hA rfl rfl rfl) rfl rfl, trivial⟩ ⟨by kernel_rfl, by kernel_rfl⟩ [(0, .pointer none), (2, .pointer (some ⟨g104, 0, none⟩)), (26, .bool true)] rfl (fun ac hA => ?_)
    refine hK106 _ _ ?_
    refine c_t (b := true) rfl hA ?_ rfl
    refine wp_seq_k fun K107 hK107 => ?_
    refine wp_reg ?_
    refine x_val (v := .agg #[.int .u64 0, .int .i64 0, .int .i64 0, str [], .float .f64 0]) hA (r_build (ps := #[]) rfl (mapev2 hA rfl) (fun w => by kernel_rfl)) (fun ac hA => ?_) rfl rfl rfl
    refine x_stb 0 sz30 hA hS rfl (fun  ac w hS hA => ?_) rfl rfl rfl rfl rfl rfl rfl rfl
    refine x_assign hA (fun ac hA => ?_) rfl rfl rfl rfl rfl
    refine x_assign hA (fun ac hA => ?_) rfl rfl rfl rfl rfl
    refine wpList_nil ?_
    refine hK107 _ _ ?_
    refine wp_ret ?_
    have hS0 := hS
    replace hS := SH.optN (obj48 Z wz) hS
    replace hS := hS.drop 1
    cases hF
    refine hQ _ _ ?_
    refine lvc3 (cs := [.int .u64 0, .int .i64 0, .int .i64 0, str [], .float .f64 0]) Try.results17 Try.underlying30 sz30 hS0 0 rfl hA rfl rfl rfl rfl ?_
    exact ⟨rfl, hS⟩
  | some x101 =>
    have hU := SH.unoptS hS
    clear hS
    obtain ⟨g102, rfl, hS⟩ := hU
    obtain ⟨A108, n109, c110, A111, n112, c113, hS⟩ := obj48_open hS
    refine wp_seq_k fun K114 hK114 => ?_
    refine wp_reg ?_
    refine x_alloc (cs := [.int .u64 0, .int .i64 0, .int .i64 0, str [], .float .f64 0]) zr30 hA hS (fun g115 ac w hS hA => ?_) rfl rfl rfl rfl rfl
    refine x_assign hA (fun ac hA => ?_) rfl rfl rfl rfl rfl
    refine x_assign hA (fun ac hA => ?_) rfl rfl rfl rfl rfl
    refine wpList_nil ?_
    refine hK114 _ _ ?_
    refine wp_seq_k fun K116 hK116 => ?_
    refine wp_seq_k fun K117 hK117 => ?_
    refine wp_draw [0, 1, 3, 7, 15, 31, 63, 7, 135, 391, 903, 1927, 3975, 8191, 16383, 32767, 65535, 131071] [] rfl hA hS (by kernel_rfl) (by kernel_rfl) (by kernel_rfl) (by kernel_rfl) fun w hS => ?_
    obtain ⟨x128, h129, hF⟩ := bnd hF
    obtain ⟨cs, hV, hc130⟩ := el (hS.rd 3 rfl) h129
    obtain rfl := hV
    obtain ⟨x131, h132, hF⟩ := bnd hF
    obtain ⟨cs, hV, hc133⟩ := el (hS.rd 2 rfl) h132
    obtain ⟨A134, n135, c136, rfl, h137⟩ := hV
    refine ⟨[(0, .pointer (some ⟨g102, 0, none⟩)), (1, .bool false), (2, .bool false), (3, .pointer (some ⟨g102, 0, none⟩)), (4, .pointer (some ⟨g102, 0, none⟩)), (5, .pointer (some ⟨g102, 0, none⟩)), (6, .slice A108 n109 c110), (7, .pointer (some ⟨g102, 0, none⟩)), (8, .pointer (some ⟨g102, 0, none⟩)), (9, .pointer (some ⟨g102, 1, none⟩)), (10, .slice A111 n112 c113), (11, .pointer (some (ea A111 ((0 : Int).toNat * 1)))), (12, .int .i64 x128), (13, .pointer (some (ea A108 (x128.toNat * 1)))), (14, .slice A134 n135 c136), (15, .int .i64 (x131.length : Int)), (16, .bool ((x131.length : Int) == 0)), (17, .bool ((x131.length : Int) == 0))], ?_⟩
    refine dEnd [0, 1, 2, 3, 4, 5, 6, 7, 8, 9, 10, 11, 12, 13, 14, 15, 16, 17] (by kernel_rfl) ⟨pu rfl rfl [(0, .pointer (some ⟨g102, 0, none⟩))] (fun ac hA => y_move hA rfl rfl) rfl rfl, pu rfl rfl [(9, .pointer (some ⟨g102, 0, none⟩))] (fun ac hA => (r_eqNilP (p := some ⟨g102, 0, none⟩) Try.underlying31 rfl (hA.ev rfl) (hA.ev rfl) : RunV _ _ _ _ (.bool false))) rfl rfl, pu rfl rfl [(10, .bool false)] (fun ac hA => y_move hA rfl rfl) rfl rfl, puOn rfl rfl rfl rfl [(0, .pointer (some ⟨g102, 0, none⟩)), (11, .bool false)] rfl rfl (fun ac hA => y_move hA rfl rfl) rfl, puOn rfl rfl rfl rfl [(11, .bool false), (12, .pointer (some ⟨g102, 0, none⟩))] rfl rfl (fun ac hA => r_nilCheck rfl (hA.ev rfl)) rfl, puOn rfl rfl rfl rfl [(11, .bool false), (13, .pointer (some ⟨g102, 0, none⟩))] rfl rfl (fun ac hA => y_fab fa48_0 hA rfl rfl) rfl, puOn rfl rfl rfl rfl [(11, .bool false), (14, .pointer (some ⟨g102, 0, none⟩))] rfl rfl (fun ac hA => y_ld Try.underlying22 (hS.cell 1 rfl 0 _ rfl) hA rfl rfl rfl) rfl, puOn rfl rfl rfl rfl [(0, .pointer (some ⟨g102, 0, none⟩)), (11, .bool false)] rfl rfl (fun ac hA => y_move hA rfl rfl) rfl, puOn rfl rfl rfl rfl [(11, .bool false), (16, .pointer (some ⟨g102, 0, none⟩))] rfl rfl (fun ac hA => r_nilCheck rfl (hA.ev rfl)) rfl, puOn rfl rfl rfl rfl [(11, .bool false), (17, .pointer (some ⟨g102, 0, none⟩))] rfl rfl (fun ac hA => y_fab fa48_1 hA rfl rfl) rfl, puOn rfl rfl rfl rfl [(11, .bool false), (18, .pointer (some ⟨g102, 1, none⟩))] rfl rfl (fun ac hA => y_ld Try.underlying41 (hS.cell 1 rfl 1 _ rfl) hA rfl rfl rfl) rfl, puOn rfl rfl rfl rfl [(11, .bool false), (19, .slice A111 n112 c113)] rfl rfl (fun ac hA => y_ia Try.underlying41 sz3 (hS.rd 3 rfl) h129 hA rfl rfl rfl) rfl, puOn rfl rfl rfl rfl [(11, .bool false), (20, .pointer (some (ea A111 ((0 : Int).toNat * 1))))] rfl rfl (fun ac hA => y_ld Try.underlying3 (hc130 0 _ rfl) hA rfl rfl rfl) rfl, puOn rfl rfl rfl rfl [(11, .bool false), (15, .slice A108 n109 c110), (21, .int .i64 x128)] rfl rfl (fun ac hA => y_ia Try.underlying22 sz25 (hS.rd 2 rfl) h132 hA rfl rfl rfl) rfl, puOn rfl rfl rfl rfl [(11, .bool false), (22, .pointer (some (ea A108 (x128.toNat * 1))))] rfl rfl (fun ac hA => y_ld Try.underlying25 (hc133 0 _ rfl) hA rfl rfl rfl) rfl, puOn rfl rfl rfl rfl [(11, .bool false), (23, .slice A134 n135 c136)] rfl rfl (fun ac hA => y_len Try.underlying25 (hS.rdl 4 (h137.rdl qz hZ) rfl).2.1 hA rfl rfl) rfl, puOn rfl rfl rfl rfl [(11, .bool false), (24, .int .i64 (x131.length : Int))] rfl rfl (fun ac hA => r_eqI rfl (hA.ev rfl) (hA.ev rfl)) rfl, pu rfl rfl [(11, .bool false), (25, .bool ((x131.length : Int) == 0))] (fun ac hA => y_pickf rfl hA rfl rfl rfl) rfl rfl, trivial⟩ ⟨by kernel_rfl, by kernel_rfl⟩ [(0, .pointer (some ⟨g102, 0, none⟩)), (2, .pointer (some ⟨g115, 0, none⟩)), (26, .bool ((x131.length : Int) == 0))] rfl (fun ac hA => ?_)
    refine hK117 _ _ ?_
    refine c_if hA rfl (fun hb138 => ?_) fun hb138 => ?_
    · replace hF := ift hb138 hF
      refine wp_seq_k fun K139 hK139 => ?_
      refine wp_reg ?_
      refine x_val (v := .agg #[.int .u64 0, .int .i64 0, .int .i64 0, str [], .float .f64 0]) hA (r_build (ps := #[]) rfl (mapev2 hA rfl) (fun w => by kernel_rfl)) (fun ac hA => ?_) rfl rfl rfl
      refine x_stb 0 sz30 hA hS rfl (fun  ac w hS hA => ?_) rfl rfl rfl rfl rfl rfl rfl rfl
      refine x_assign hA (fun ac hA => ?_) rfl rfl rfl rfl rfl
      refine x_assign hA (fun ac hA => ?_) rfl rfl rfl rfl rfl
      refine wpList_nil ?_
      refine hK139 _ _ ?_
      refine wp_ret ?_
      have hS0 := hS
      replace hS := hS.pk 3
      replace hS := hS.pk 3
      replace hS := hS.pk 3
      replace hS := obj48_mk (x := x101) hS
      replace hS := SH.optS hS
      replace hS := hS.drop 1
      cases hF
      refine hQ _ _ ?_
      refine lvc3 (cs := [.int .u64 0, .int .i64 0, .int .i64 0, str [], .float .f64 0]) Try.results17 Try.underlying30 sz30 hS0 0 rfl hA rfl rfl rfl rfl ?_
      exact ⟨rfl, hS⟩
    replace hF := iff' hb138 hF
    refine wp_skip ?_
    refine hK116 _ _ ?_
    refine wp_seq_k fun K140 hK140 => ?_
    refine wp_reg ?_
    refine x_move hA (fun ac hA => ?_) rfl rfl rfl rfl rfl
    refine x_val hA (r_nilCheck rfl (hA.ev rfl)) (fun ac hA => ?_) rfl rfl rfl
    refine x_fab fa48_1 hA (fun ac hA => ?_) rfl rfl rfl rfl rfl
    refine x_ld Try.underlying41 (hS.cell 1 rfl 1 _ rfl) hA (fun ac hA => ?_) rfl rfl rfl rfl rfl rfl
    refine x_ia Try.underlying41 sz3 (hS.rd 3 rfl) h129 hA (fun ac hA => ?_) rfl rfl rfl rfl rfl rfl
    obtain ⟨cs, hV, hc141⟩ := el (hS.rd 3 rfl) h129
    obtain rfl := hV
    refine x_ld Try.underlying3 (hc141 0 _ rfl) hA (fun ac hA => ?_) rfl rfl rfl rfl rfl rfl
    refine x_assign hA (fun ac hA => ?_) rfl rfl rfl rfl rfl
    refine wpList_nil ?_
    refine hK140 _ _ ?_
    refine wp_seq_k fun K142 hK142 => ?_
    refine wp_reg ?_
    refine x_move hA (fun ac hA => ?_) rfl rfl rfl rfl rfl
    refine x_val hA (r_nilCheck rfl (hA.ev rfl)) (fun ac hA => ?_) rfl rfl rfl
    refine x_fab fa48_0 hA (fun ac hA => ?_) rfl rfl rfl rfl rfl
    refine x_ld Try.underlying22 (hS.cell 1 rfl 0 _ rfl) hA (fun ac hA => ?_) rfl rfl rfl rfl rfl rfl
    refine x_move hA (fun ac hA => ?_) rfl rfl rfl rfl rfl
    refine x_ia Try.underlying22 sz25 (hS.rd 2 rfl) h132 hA (fun ac hA => ?_) rfl rfl rfl rfl rfl rfl
    obtain ⟨cs, hV, hc143⟩ := el (hS.rd 2 rfl) h132
    obtain ⟨A144, n145, c146, rfl, h147⟩ := hV
    refine x_ld Try.underlying25 (hc143 0 _ rfl) hA (fun ac hA => ?_) rfl rfl rfl rfl rfl rfl
    obtain ⟨x148, h149, hF⟩ := bnd hF
    refine x_ia Try.underlying25 sz30 (hS.rdl 4 (h147.rdl qz hZ) rfl) h149 hA (fun ac hA => ?_) rfl rfl rfl rfl rfl rfl
    obtain ⟨cs, hV, hc150⟩ := el (hS.rdl 4 (h147.rdl qz hZ) rfl) h149
    obtain rfl := hV
    refine x_lda (cs := [.int .u64 x148.f0, .int .i64 x148.f1, .int .i64 x148.f2, str x148.f3, .float .f64 x148.f4]) Try.underlying30 sz30 (fun j u h => by rw [ea_add]; exact hc150 _ _ h) hA (fun ac hA => ?_) rfl rfl rfl rfl rfl rfl
    refine x_alloc (cs := [.int .u64 0, .int .i64 0, .int .i64 0, str [], .float .f64 0]) zr30 hA hS (fun g151 ac w hS hA => ?_) rfl rfl rfl rfl rfl
    refine x_stb 0 sz30 hA hS rfl (fun  ac w hS hA => ?_) rfl rfl rfl rfl rfl rfl rfl rfl
    refine wpList_nil ?_
    refine hK142 _ _ ?_
    refine wp_seq_k fun K152 hK152 => ?_
    refine wp_draw [0, 1, 3, 7, 0, 0, 32, 96, 224, 0, 992, 2016, 4064, 8191, 16383] [14] rfl hA hS (by kernel_rfl) (by kernel_rfl) (by kernel_rfl) (by kernel_rfl) fun w hS => ?_
    obtain ⟨cs, hV, hc153⟩ := el (hS.rd 3 rfl) h132
    obtain ⟨A154, n155, c156, rfl, h157⟩ := hV
    obtain ⟨l158, h159, hF⟩ := bnd hF
    have h160 := imm_l h157 h159
    refine ⟨[(0, .pointer (some ⟨g102, 0, none⟩)), (1, .pointer (some ⟨g102, 0, none⟩)), (2, .pointer (some ⟨g102, 0, none⟩)), (3, .slice A108 n109 c110), (4, .int .i64 x128), (5, .pointer (some ⟨g102, 0, none⟩)), (6, .pointer (some ⟨g102, 0, none⟩)), (7, .pointer (some ⟨g102, 0, none⟩)), (8, .slice A108 n109 c110), (9, .int .i64 x128), (10, .pointer (some (ea A108 (x128.toNat * 1)))), (11, .slice A154 n155 c156), (12, .slice (if c156 = (1 : Int).toNat then A154 else A154.map (·.add ((1 : Int).toNat * 5))) (n155 - (1 : Int).toNat) (c156 - (1 : Int).toNat)), (13, .pointer (some (ea A108 (x128.toNat * 1))))], ?_⟩
    refine dEff [0, 1, 2, 3, 4, 5, 6, 7, 8, 9, 10, 11, 12, 13] [14] (by kernel_rfl) ⟨pu rfl rfl [(0, .pointer (some ⟨g102, 0, none⟩))] (fun ac hA => y_move hA rfl rfl) rfl rfl, pu rfl rfl [(43, .pointer (some ⟨g102, 0, none⟩))] (fun ac hA => r_nilCheck rfl (hA.ev rfl)) rfl rfl, pu rfl rfl [(44, .pointer (some ⟨g102, 0, none⟩))] (fun ac hA => y_fab fa48_0 hA rfl rfl) rfl rfl, pu rfl rfl [(45, .pointer (some ⟨g102, 0, none⟩))] (fun ac hA => y_ld Try.underlying22 (hS.cell 2 rfl 0 _ rfl) hA rfl rfl rfl) rfl rfl, pu rfl rfl [(5, .int .i64 x128)] (fun ac hA => y_move hA rfl rfl) rfl rfl, pu rfl rfl [(0, .pointer (some ⟨g102, 0, none⟩))] (fun ac hA => y_move hA rfl rfl) rfl rfl, pu rfl rfl [(48, .pointer (some ⟨g102, 0, none⟩))] (fun ac hA => r_nilCheck rfl (hA.ev rfl)) rfl rfl, pu rfl rfl [(49, .pointer (some ⟨g102, 0, none⟩))] (fun ac hA => y_fab fa48_0 hA rfl rfl) rfl rfl, pu rfl rfl [(50, .pointer (some ⟨g102, 0, none⟩))] (fun ac hA => y_ld Try.underlying22 (hS.cell 2 rfl 0 _ rfl) hA rfl rfl rfl) rfl rfl, pu rfl rfl [(5, .int .i64 x128)] (fun ac hA => y_move hA rfl rfl) rfl rfl, pu rfl rfl [(51, .slice A108 n109 c110), (52, .int .i64 x128)] (fun ac hA => y_ia Try.underlying22 sz25 (hS.rd 3 rfl) h132 hA rfl rfl rfl) rfl rfl, pu rfl rfl [(53, .pointer (some (ea A108 (x128.toNat * 1))))] (fun ac hA => y_ld Try.underlying25 (hc153 0 _ rfl) hA rfl rfl rfl) rfl rfl, pu rfl rfl [(54, .slice A154 n155 c156)] (fun ac hA => r_slice_l Try.underlying25 sz30 rfl (hA.ev rfl) (hA.ev rfl) (cutq (hS.rdl 5 (h157.rdl qz hZ) rfl) h159).1 (cutq (hS.rdl 5 (h157.rdl qz hZ) rfl) h159).2.2.2.2.2) rfl rfl, pu rfl rfl [(46, .slice A108 n109 c110), (47, .int .i64 x128)] (fun ac hA => y_ia Try.underlying22 sz25 (hS.rd 3 rfl) h132 hA rfl rfl rfl) rfl rfl, trivial⟩ (by kernel_rfl) (by kernel_rfl) ⟨ef rfl [(55, .slice (if c156 = (1 : Int).toNat then A154 else A154.map (·.add ((1 : Int).toNat * 5))) (n155 - (1 : Int).toNat) (c156 - (1 : Int).toNat)), (56, .pointer (some (ea A108 (x128.toNat * 1))))] (fun ac hA K hK => ?_) rfl rfl, trivial⟩
    refine z_sto (z' := l158) (off := 0) (vs := [.slice (if c156 = (1 : Int).toNat then A154 else A154.map (·.add ((1 : Int).toNat * 5))) (n155 - (1 : Int).toNat) (c156 - (1 : Int).toNat)]) 3 sz25 hA hS rfl (at_some h132).2.2 (fun c h => by obtain ⟨_, _, _, rfl, _⟩ := h; exact ⟨_, _, _, rfl, h160⟩) (fun  w hS => ?_) rfl rfl rfl rfl rfl rfl
    refine hK _ [] _ rfl ?_
    refine dEnd [] (by kernel_rfl) trivial ⟨by kernel_rfl, by kernel_rfl⟩ [(0, .pointer (some ⟨g102, 0, none⟩)), (2, .pointer (some ⟨g115, 0, none⟩)), (5, .int .i64 x128), (6, .pointer (some ⟨g151, 0, none⟩))] rfl (fun ac hA => ?_)
    refine hK152 _ _ ?_
    refine wp_seq_k fun K161 hK161 => ?_
    refine wp_reg ?_
    refine x_move hA (fun ac hA => ?_) rfl rfl rfl rfl rfl
    refine x_assign hA (fun ac hA => ?_) rfl rfl rfl rfl rfl
    refine wpList_nil ?_
    refine hK161 _ _ ?_
    refine wp_seq_k fun K162 hK162 => ?_
    refine wp_seq_k fun K795 hK795 => ?_
    refine wp_reg ?_
    refine x_move hA (fun ac hA => ?_) rfl rfl rfl rfl rfl
    refine x_move hA (fun ac hA => ?_) rfl rfl rfl rfl rfl
    refine x_val hA (r_nilCheck rfl (hA.ev rfl)) (fun ac hA => ?_) rfl rfl rfl
    refine x_fab fa48_0 hA (fun ac hA => ?_) rfl rfl rfl rfl rfl
    refine x_ld Try.underlying22 (hS.cell 3 rfl 0 _ rfl) hA (fun ac hA => ?_) rfl rfl rfl rfl rfl rfl
    refine x_len Try.underlying22 (hS.rd 0 rfl).2.1 hA (fun ac hA => ?_) rfl rfl rfl rfl rfl
    refine x_val hA (r_add rfl (hA.ev rfl) (hA.ev rfl)) (fun ac hA => ?_) rfl rfl rfl
    refine x_val hA (r_quo rfl (hA.ev rfl) (hA.ev rfl) (by decide)) (fun ac hA => ?_) rfl rfl rfl
    refine x_assign hA (fun ac hA => ?_) rfl rfl rfl rfl rfl
    refine wpList_nil ?_
    refine hK795 _ _ ?_
    refine wp_block_k fun Kx796 hKx796 => ?_
    have hb1 : ∀ (l1107 : (List (List S30))) (l1111 : (List Int)) (x1115 : Int), merge_Tree_Next_b1 x128 x148 l1107 l1111 x1115 = some y → ∀ (A1108 : Option Addr) (n1109 : Nat) (c1110 : Nat) (A1112 : Option Addr) (n1113 : Nat) (c1114 : Nat) (ac : Act) (w : World), FR 102 [] ac [(0, .pointer (some ⟨g102, 0, none⟩)), (2, .pointer (some ⟨g115, 0, none⟩)), (5, .int .i64 x128), (6, .pointer (some ⟨g151, 0, none⟩)), (7, .int .i64 x1115)] → SH r (blk g102 48 [.slice A1108 n1109 c1110, .slice A1112 n1113 c1114] :: blk g115 30 [.int .u64 0, .int .i64 0, .int .i64 0, str [], .float .f64 0] :: blk g151 30 [.int .u64 x148.f0, .int .i64 x148.f1, .int .i64 x148.f2, str x148.f3, .float .f64 x148.f4] :: own (kM Z wz k30) 25 A1108 n1109 c1110 l1107 :: own (kI .i64) 3 A1112 n1113 c1114 l1111 :: L) w → Kx796 ac w := by
      intro l1107 l1111 x1115 hF A1108 n1109 c1110 A1112 n1113 c1114 ac w hA hS
      unfold merge_Tree_Next_b1 at hF
      refine hKx796 _ _ ?_
      refine hK162 _ _ ?_
      refine wp_seq_k fun K1116 hK1116 => ?_
      refine wp_reg ?_
      refine x_move hA (fun ac hA => ?_) rfl rfl rfl rfl rfl
      refine x_val hA (r_nilCheck rfl (hA.ev rfl)) (fun ac hA => ?_) rfl rfl rfl
      refine x_fab fa48_1 hA (fun ac hA => ?_) rfl rfl rfl rfl rfl
      refine x_ld Try.underlying41 (hS.cell 0 rfl 1 _ rfl) hA (fun ac hA => ?_) rfl rfl rfl rfl rfl rfl
      refine x_move hA (fun ac hA => ?_) rfl rfl rfl rfl rfl
      obtain ⟨x1117, h1118, hF⟩ := bnd hF
      refine x_ia Try.underlying41 sz3 (hS.rd 4 rfl) h1118 hA (fun ac hA => ?_) rfl rfl rfl rfl rfl rfl
      refine x_sto (z' := x1115) (off := 0) (vs := [.int .i64 x1115]) 4 sz3 hA hS rfl (at_some h1118).2.2 (fun c h => by cases h; rfl) (fun  ac w hS hA => ?_) rfl rfl rfl rfl rfl rfl rfl rfl
      refine wpList_nil ?_
      refine hK1116 _ _ ?_
      refine wp_seq_k fun K1119 hK1119 => ?_
      refine wp_reg ?_
      refine x_lda (ad := ⟨g151, 0, none⟩) (cs := [.int .u64 x148.f0, .int .i64 x148.f1, .int .i64 x148.f2, str x148.f3, .float .f64 x148.f4]) Try.underlying30 sz30 (fun j u h => by rw [add_mk, Nat.zero_add]; exact hS.cell 3 rfl j u h) hA (fun ac hA => ?_) rfl rfl rfl rfl rfl rfl
      refine x_move hA (fun ac hA => ?_) rfl rfl rfl rfl rfl
      refine x_stb 2 sz30 hA hS rfl (fun  ac w hS hA => ?_) rfl rfl rfl rfl rfl rfl rfl rfl
      refine x_assign hA (fun ac hA => ?_) rfl rfl rfl rfl rfl
      refine x_assign hA (fun ac hA => ?_) rfl rfl rfl rfl rfl
      refine wpList_nil ?_
      refine hK1119 _ _ ?_
      refine wp_ret ?_
      have hS0 := hS
      replace hS := hS.pk 1
      replace hS := hS.pk 4
      replace hS := hS.pk 3
      replace hS := obj48_mk (x := (⟨l1107, l1111.set (0 : Int).toNat x1115⟩ : S48)) hS
      replace hS := SH.optS hS
      replace hS := hS.drop 1
      replace hS := hS.drop 1
      cases hF
      refine hQ _ _ ?_
      refine lvc3 (cs := [.int .u64 x148.f0, .int .i64 x148.f1, .int .i64 x148.f2, str x148.f3, .float .f64 x148.f4]) Try.results17 Try.underlying30 sz30 hS0 0 rfl hA rfl rfl rfl rfl ?_
      exact ⟨rfl, hS⟩
    obtain ⟨t1338, hl1338, hF⟩ := bnd hF
    have hx1338_0 : ∀ (l1330 : (List (List S30))) (l1334 : (List Int)) (x1338 : Int), (l1330, l1334, x1338) = t1338 → ∀ (A1331 : Option Addr) (n1332 : Nat) (c1333 : Nat) (A1335 : Option Addr) (n1336 : Nat) (c1337 : Nat) (ac : Act) (w : World), FR 102 [] ac [(0, .pointer (some ⟨g102, 0, none⟩)), (2, .pointer (some ⟨g115, 0, none⟩)), (5, .int .i64 x128), (6, .pointer (some ⟨g151, 0, none⟩)), (7, .int .i64 x1338)] → SH r (blk g102 48 [.slice A1331 n1332 c1333, .slice A1335 n1336 c1337] :: blk g115 30 [.int .u64 0, .int .i64 0, .int .i64 0, str [], .float .f64 0] :: blk g151 30 [.int .u64 x148.f0, .int .i64 x148.f1, .int .i64 x148.f2, str x148.f3, .float .f64 x148.f4] :: own (kM Z wz k30) 25 A1331 n1332 c1333 l1330 :: own (kI .i64) 3 A1335 n1336 c1337 l1334 :: L) w → Kx796 ac w := by
      intro l1330 l1334 x1338 ht A1331 n1332 c1333 A1335 n1336 c1337 ac w hA hS
      subst ht
      replace hF : merge_Tree_Next_x1_0 x128 x148 l1330 l1334 x1338 = some y := hF
      unfold merge_Tree_Next_x1_0 at hF
      exact hb1 l1330 l1334 x1338 hF A1331 n1332 c1333 A1335 n1336 c1337 ac w (hA.sub _ rfl) hS
    replace hS := hS.pk 4
    replace hS := hS.pk 1
    replace hS := hS.pk 2
    replace hS := hS.pk 3
    replace hS := hS.pk 4
    refine wp_loop_fn hl1338 (fun s ac w => ∃ (A1221 : Option Addr) (n1222 : Nat) (c1223 : Nat) (A1225 : Option Addr) (n1226 : Nat) (c1227 : Nat), FR 102 [] ac [(0, .pointer (some ⟨g102, 0, none⟩)), (2, .pointer (some ⟨g115, 0, none⟩)), (5, .int .i64 x128), (6, .pointer (some ⟨g151, 0, none⟩)), (7, .int .i64 s.2.2.1), (8, .int .i64 s.2.2.2)] ∧ SH r (blk g102 48 [.slice A1221 n1222 c1223, .slice A1225 n1226 c1227] :: blk g115 30 [.int .u64 0, .int .i64 0, .int .i64 0, str [], .float .f64 0] :: blk g151 30 [.int .u64 x148.f0, .int .i64 x148.f1, .int .i64 x148.f2, str x148.f3, .float .f64 x148.f4] :: own (kM Z wz k30) 25 A1221 n1222 c1223 s.1 :: own (kI .i64) 3 A1225 n1226 c1227 s.2.1 :: L) w) ⟨A108, n109, c110, A111, n112, c113, hA.sub _ rfl, hS⟩ ?_
    intro N1338 s1338 o1338 hF N1338_ T1338_ ac w hLab
    obtain ⟨l1220, l1224, x1228, x1229⟩ := s1338
    replace hF : merge_Tree_Next_l1 l1220 l1224 x1228 x1229 = some o1338 := hF
    unfold merge_Tree_Next_l1 at hF
    try dsimp only at hLab
    obtain ⟨A1221, n1222, c1223, A1225, n1226, c1227, hA, hS⟩ := hLab
    refine wp_seq_k fun K1340 hK1340 => ?_
    refine wp_seq_k fun K1341 hK1341 => ?_
    refine wp_reg ?_
    refine x_move hA (fun ac hA => ?_) rfl rfl rfl rfl rfl
    refine x_val hA (r_gtI rfl (hA.ev rfl) (hA.ev rfl)) (fun ac hA => ?_) rfl rfl rfl
    refine wpList_nil ?_
    refine hK1341 _ _ ?_
    refine c_if hA rfl (fun hb1342 => ?_) fun hb1342 => ?_
    · replace hF := ift hb1342 hF
      refine wp_skip ?_
      refine hK1340 _ _ ?_
      refine wp_seq_k fun K1343 hK1343 => ?_
      refine wp_block_k fun Kx1387 hKx1387 => ?_
      have hb2 : ∀ (l1404 : (List (List S30))) (l1408 : (List Int)) (x1412 : Int), merge_Tree_Next_b2 x1229 l1404 l1408 x1412 = some o1338 → ∀ (A1405 : Option Addr) (n1406 : Nat) (c1407 : Nat) (A1409 : Option Addr) (n1410 : Nat) (c1411 : Nat) (ac : Act) (w : World), FR 102 [] ac [(0, .pointer (some ⟨g102, 0, none⟩)), (2, .pointer (some ⟨g115, 0, none⟩)), (5, .int .i64 x128), (6, .pointer (some ⟨g151, 0, none⟩)), (7, .int .i64 x1412), (8, .int .i64 x1229)] → SH r (blk g102 48 [.slice A1405 n1406 c1407, .slice A1409 n1410 c1411] :: blk g115 30 [.int .u64 0, .int .i64 0, .int .i64 0, str [], .float .f64 0] :: blk g151 30 [.int .u64 x148.f0, .int .i64 x148.f1, .int .i64 x148.f2, str x148.f3, .float .f64 x148.f4] :: own (kM Z wz k30) 25 A1405 n1406 c1407 l1404 :: own (kI .i64) 3 A1409 n1410 c1411 l1408 :: L) w → Kx1387 ac w := by
        intro l1404 l1408 x1412 hF A1405 n1406 c1407 A1409 n1410 c1411 ac w hA hS
        unfold merge_Tree_Next_b2 at hF
        refine hKx1387 _ _ ?_
        refine hK1343 _ _ ?_
        refine wp_reg ?_
        refine x_move hA (fun ac hA => ?_) rfl rfl rfl rfl rfl
        refine x_val hA (r_quo rfl (hA.ev rfl) (hA.ev rfl) (by decide)) (fun ac hA => ?_) rfl rfl rfl
        refine x_assign hA (fun ac hA => ?_) rfl rfl rfl rfl rfl
        refine wpList_nil ?_
        cases hF
        exact ⟨_, N1338_ _ rfl, A1405, n1406, c1407, A1409, n1410, c1411, hA.sub _ rfl, hS⟩
      refine wp_seq_k fun K1413 hK1413 => ?_
      refine wp_reg ?_
      refine x_move hA (fun ac hA => ?_) rfl rfl rfl rfl rfl
      refine x_move hA (fun ac hA => ?_) rfl rfl rfl rfl rfl
      refine x_val hA (r_nilCheck rfl (hA.ev rfl)) (fun ac hA => ?_) rfl rfl rfl
      refine x_fab fa48_1 hA (fun ac hA => ?_) rfl rfl rfl rfl rfl
      refine x_ld Try.underlying41 (hS.cell 0 rfl 1 _ rfl) hA (fun ac hA => ?_) rfl rfl rfl rfl rfl rfl
      refine x_move hA (fun ac hA => ?_) rfl rfl rfl rfl rfl
      obtain ⟨x1414, h1415, hF⟩ := bnd hF
      refine x_ia Try.underlying41 sz3 (hS.rd 4 rfl) h1415 hA (fun ac hA => ?_) rfl rfl rfl rfl rfl rfl
      obtain ⟨cs, hV, hc1416⟩ := el (hS.rd 4 rfl) h1415
      obtain rfl := hV
      refine x_ld Try.underlying3 (hc1416 0 _ rfl) hA (fun ac hA => ?_) rfl rfl rfl rfl rfl rfl
      refine x_move hA (fun ac hA => ?_) rfl rfl rfl rfl rfl
      replace hS := hS.pk 4
      replace hS := hS.pk 4
      replace hS := hS.pk 2
      replace hS := obj48_mk (x := (⟨l1220, l1224⟩ : S48)) hS
      obtain ⟨y1417, h1418, hF⟩ := bnd hF
      refine x_call en25 hA (F_merge_Tree_ahead (L := blk g115 30 [.int .u64 0, .int .i64 0, .int .i64 0, str [], .float .f64 0] :: blk g151 30 [.int .u64 x148.f0, .int .i64 x148.f1, .int .i64 x148.f2, str x148.f3, .float .f64 x148.f4] :: L) (⟨l1220, l1224⟩ : S48) x1414 x1228 g102 h1418 (qz + 2) hZ hS) (fun v ac w hR hA => ?_) rfl rfl rfl rfl rfl
      obtain ⟨rfl, hS⟩ := hR
      obtain ⟨A1419, n1420, c1421, A1422, n1423, c1424, hS⟩ := obj48_open hS
      refine wpList_nil ?_
      refine hK1413 _ _ ?_
      refine c_if hA rfl (fun hb1425 => ?_) fun hb1425 => ?_
      · replace hF := ift hb1425 hF
        refine wp_draw [0, 1, 3, 7, 0, 0, 32, 96, 224, 0, 992, 2016, 0, 8160, 16383, 32767] [15] rfl hA hS (by kernel_rfl) (by kernel_rfl) (by kernel_rfl) (by kernel_rfl) fun w hS => ?_
        obtain ⟨x1426, h1427, hF⟩ := bnd hF
        obtain ⟨cs, hV, hc1428⟩ := el (hS.rd 2 rfl) h1427
        obtain rfl := hV
        refine ⟨[(0, .pointer (some ⟨g102, 0, none⟩)), (1, .pointer (some ⟨g102, 0, none⟩)), (2, .pointer (some ⟨g102, 1, none⟩)), (3, .slice A1422 n1423 c1424), (4, .int .i64 x1229), (5, .pointer (some ⟨g102, 0, none⟩)), (6, .pointer (some ⟨g102, 0, none⟩)), (7, .pointer (some ⟨g102, 1, none⟩)), (8, .slice A1422 n1423 c1424), (9, .int .i64 x1229), (10, .pointer (some (ea A1422 (x1229.toNat * 1)))), (11, .int .i64 x1426), (12, .int .i64 x1228), (13, .int .i64 x1426), (14, .pointer (some (ea A1422 (x1229.toNat * 1))))], ?_⟩
        refine dEff [0, 1, 2, 3, 4, 5, 6, 7, 8, 9, 10, 11, 12, 13, 14] [15] (by kernel_rfl) ⟨pu rfl rfl [(0, .pointer (some ⟨g102, 0, none⟩))] (fun ac hA => y_move hA rfl rfl) rfl rfl, pu rfl rfl [(80, .pointer (some ⟨g102, 0, none⟩))] (fun ac hA => r_nilCheck rfl (hA.ev rfl)) rfl rfl, pu rfl rfl [(81, .pointer (some ⟨g102, 0, none⟩))] (fun ac hA => y_fab fa48_1 hA rfl rfl) rfl rfl, pu rfl rfl [(82, .pointer (some ⟨g102, 1, none⟩))] (fun ac hA => y_ld Try.underlying41 (hS.cell 0 rfl 1 _ rfl) hA rfl rfl rfl) rfl rfl, pu rfl rfl [(8, .int .i64 x1229)] (fun ac hA => y_move hA rfl rfl) rfl rfl, pu rfl rfl [(0, .pointer (some ⟨g102, 0, none⟩))] (fun ac hA => y_move hA rfl rfl) rfl rfl, pu rfl rfl [(85, .pointer (some ⟨g102, 0, none⟩))] (fun ac hA => r_nilCheck rfl (hA.ev rfl)) rfl rfl, pu rfl rfl [(86, .pointer (some ⟨g102, 0, none⟩))] (fun ac hA => y_fab fa48_1 hA rfl rfl) rfl rfl, pu rfl rfl [(87, .pointer (some ⟨g102, 1, none⟩))] (fun ac hA => y_ld Try.underlying41 (hS.cell 0 rfl 1 _ rfl) hA rfl rfl rfl) rfl rfl, pu rfl rfl [(8, .int .i64 x1229)] (fun ac hA => y_move hA rfl rfl) rfl rfl, pu rfl rfl [(88, .slice A1422 n1423 c1424), (89, .int .i64 x1229)] (fun ac hA => y_ia Try.underlying41 sz3 (hS.rd 2 rfl) h1427 hA rfl rfl rfl) rfl rfl, pu rfl rfl [(90, .pointer (some (ea A1422 (x1229.toNat * 1))))] (fun ac hA => y_ld Try.underlying3 (hc1428 0 _ rfl) hA rfl rfl rfl) rfl rfl, pu rfl rfl [(7, .int .i64 x1228)] (fun ac hA => y_move hA rfl rfl) rfl rfl, pu rfl rfl [(91, .int .i64 x1426)] (fun ac hA => y_assign hA rfl rfl) rfl rfl, pu rfl rfl [(83, .slice A1422 n1423 c1424), (84, .int .i64 x1229)] (fun ac hA => y_ia Try.underlying41 sz3 (hS.rd 2 rfl) h1427 hA rfl rfl rfl) rfl rfl, trivial⟩ (by kernel_rfl) (by kernel_rfl) ⟨ef rfl [(92, .int .i64 x1228), (93, .pointer (some (ea A1422 (x1229.toNat * 1))))] (fun ac hA K hK => ?_) rfl rfl, trivial⟩
        refine z_sto (z' := x1228) (off := 0) (vs := [.int .i64 x1228]) 2 sz3 hA hS rfl (at_some h1427).2.2 (fun c h => by cases h; rfl) (fun  w hS => ?_) rfl rfl rfl rfl rfl rfl
        refine hK _ [] _ rfl ?_
        refine dEnd [] (by kernel_rfl) trivial ⟨by kernel_rfl, by kernel_rfl⟩ [(0, .pointer (some ⟨g102, 0, none⟩)), (2, .pointer (some ⟨g115, 0, none⟩)), (5, .int .i64 x128), (6, .pointer (some ⟨g151, 0, none⟩)), (7, .int .i64 x1426), (8, .int .i64 x1229)] rfl (fun ac hA => ?_)
        replace hS := hS.pk 2
        replace hS := hS.pk 4
        replace hS := hS.pk 4
        replace hS := hS.pk 4
        exact hb2 y1417.2.f0 (y1417.2.f1.set x1229.toNat x1228) x1426 hF A1419 n1420 c1421 A1422 n1423 c1424 ac w (hA.sub _ rfl) hS
      replace hF := iff' hb1425 hF
      refine wp_skip ?_
      replace hS := hS.pk 2
      replace hS := hS.pk 2
      replace hS := hS.pk 4
      replace hS := hS.pk 4
      replace hS := hS.pk 4
      exact hb2 y1417.2.f0 y1417.2.f1 x1228 hF A1419 n1420 c1421 A1422 n1423 c1424 ac w (hA.sub _ rfl) hS
    replace hF := iff' hb1342 hF
    refine wp_exit ?_
    cases hF
    exact hx1338_0 l1220 l1224 x1228 (T1338_ _ rfl) A1221 n1222 c1223 A1225 n1226 c1227 ac w (hA.sub _ rfl) hS

set_option maxHeartbeats 4000000 in
theorem F_merge_All {r : World} {L : List HP} {w : World} {Z : Nat → Prop} {wz : World} (a0 : (List (List S30))) (A0 : Option Addr) (n0 : Nat) (c0 : Nat) {y : ((List S30) × Int)} (hF : merge_All a0 = some y) (qz : Nat) (hZ : L[qz]? = some (zone Z wz)) (ha0 : RdL L (kM Z wz k30) A0 n0 c0 a0) (hS : SH r (L) w) :
    Ret Try.prog 14 #[.slice A0 n0 c0] w fun v w' => ∃ (B0 : Option Addr) (m0 : Nat) (d0 : Nat), v = .tuple #[(.slice B0 m0 d0), (.int .i64 y.2)] ∧ SH r (own k30 30 B0 m0 d0 y.1 :: L) w' := by
  refine enter Try.func14 rfl Try.ntmps14 [(0, .slice A0 n0 c0)] rfl (by simp) ?_
  intro ac hA Qf hQ hQn
  unfold merge_All at hF
  refine wp_seq_k fun K101 hK101 => ?_
  refine wp_reg ?_
  refine x_assign hA (fun ac hA => ?_) rfl rfl rfl rfl rfl
  refine x_assign hA (fun ac hA => ?_) rfl rfl rfl rfl rfl
  refine wpList_nil ?_
  refine hK101 _ _ ?_
  refine wp_seq_k fun K102 hK102 => ?_
  refine wp_reg ?_
  refine x_move hA (fun ac hA => ?_) rfl rfl rfl rfl rfl
  obtain ⟨y103, h104, hF⟩ := bnd hF
  refine x_call en13 hA (F_merge_New (L := L) a0 A0 n0 c0 h104 (qz + 0) hZ (RdL.sfx 0 rfl ha0) hS) (fun v ac w hR hA => ?_) rfl rfl rfl rfl rfl
  obtain ⟨p105, rfl, hS⟩ := hR
  refine x_move hA (fun ac hA => ?_) rfl rfl rfl rfl rfl
  refine x_val hA (r_extract rfl (hA.ev rfl) rfl) (fun ac hA => ?_) rfl rfl rfl
  refine x_val hA (r_extract rfl (hA.ev rfl) rfl) (fun ac hA => ?_) rfl rfl rfl
  refine x_assign hA (fun ac hA => ?_) rfl rfl rfl rfl rfl
  refine x_assign hA (fun ac hA => ?_) rfl rfl rfl rfl rfl
  refine wpList_nil ?_
  refine hK102 _ _ ?_
  refine wp_seq_k fun K106 hK106 => ?_
  refine wp_seq_k fun K107 hK107 => ?_
  refine wp_reg ?_
  refine x_move hA (fun ac hA => ?_) rfl rfl rfl rfl rfl
  refine x_val hA (r_neI rfl (hA.ev rfl) (hA.ev rfl)) (fun ac hA => ?_) rfl rfl rfl
  refine wpList_nil ?_
  refine hK107 _ _ ?_
  refine c_if hA rfl (fun hb108 => ?_) fun hb108 => ?_
  · replace hF := ift hb108 hF
    refine wp_seq_k fun K109 hK109 => ?_
    refine wp_reg ?_
    refine x_move hA (fun ac hA => ?_) rfl rfl rfl rfl rfl
    refine x_assign hA (fun ac hA => ?_) rfl rfl rfl rfl rfl
    refine x_assign hA (fun ac hA => ?_) rfl rfl rfl rfl rfl
    refine wpList_nil ?_
    refine hK109 _ _ ?_
    refine wp_ret ?_
    replace hS := SH.nil_own (d := k30) (e := 30) hS
    replace hS := hS.drop 1
    cases hF
    refine hQ _ _ ?_
    refine lv2 Try.results14 hA rfl rfl ?_
    exact ⟨none, 0, 0, rfl, hS⟩
  replace hF := iff' hb108 hF
  refine wp_skip ?_
  refine hK106 _ _ ?_
  refine wp_seq_k fun K110 hK110 => ?_
  refine wp_reg ?_
  refine x_assign hA (fun ac hA => ?_) rfl rfl rfl rfl rfl
  refine wpList_nil ?_
  refine hK110 _ _ ?_
  refine wp_seq_k fun K111 hK111 => ?_
  refine wp_seq_k fun K310 hK310 => ?_
  refine wp_reg ?_
  refine x_move hA (fun ac hA => ?_) rfl rfl rfl rfl rfl
  obtain ⟨y311, h312, hF⟩ := bnd hF
  refine x_call en17 hA (F_merge_Tree_Next (L := L) y103.1 p105 h312 (qz + 0) hZ hS) (fun v ac w hR hA => ?_) rfl rfl rfl rfl rfl
  obtain ⟨rfl, hS⟩ := hR
  refine x_move hA (fun ac hA => ?_) rfl rfl rfl rfl rfl
  refine x_val hA (r_extract rfl (hA.ev rfl) rfl) (fun ac hA => ?_) rfl rfl rfl
  refine x_val hA (r_extract rfl (hA.ev rfl) rfl) (fun ac hA => ?_) rfl rfl rfl
  refine x_val hA (r_extract rfl (hA.ev rfl) rfl) (fun ac hA => ?_) rfl rfl rfl
  refine x_alloc (cs := [.int .u64 0, .int .i64 0, .int .i64 0, str [], .float .f64 0]) zr30 hA hS (fun g313 ac w hS hA => ?_) rfl rfl rfl rfl rfl
  refine x_stb 0 sz30 hA hS rfl (fun  ac w hS hA => ?_) rfl rfl rfl rfl rfl rfl rfl rfl
  refine x_assign hA (fun ac hA => ?_) rfl rfl rfl rfl rfl
  refine x_assign hA (fun ac hA => ?_) rfl rfl rfl rfl rfl
  refine wpList_nil ?_
  refine hK310 _ _ ?_
  refine wp_block_k fun Kx314 hKx314 => ?_
  have hb1 : ∀ (l409 : (List S30)), merge_All_b1 l409 = some y → ∀ (A410 : Option Addr) (n411 : Nat) (c412 : Nat) (ac : Act) (w : World), FR 37 [] ac [(6, .slice A410 n411 c412)] → SH r (own k30 30 A410 n411 c412 l409 :: L) w → Kx314 ac w := by
    intro l409 hF A410 n411 c412 ac w hA hS
    unfold merge_All_b1 at hF
    refine hKx314 _ _ ?_
    refine hK111 _ _ ?_
    refine wp_seq_k fun K413 hK413 => ?_
    refine wp_reg ?_
    refine x_move hA (fun ac hA => ?_) rfl rfl rfl rfl rfl
    refine x_assign hA (fun ac hA => ?_) rfl rfl rfl rfl rfl
    refine x_assign hA (fun ac hA => ?_) rfl rfl rfl rfl rfl
    refine wpList_nil ?_
    refine hK413 _ _ ?_
    refine wp_ret ?_
    cases hF
    refine hQ _ _ ?_
    refine lv2 Try.results14 hA rfl rfl ?_
    exact ⟨A410, n411, c412, rfl, hS⟩
  obtain ⟨t491, hl491, hF⟩ := bnd hF
  have hx491_0 : ∀ (l488 : (List S30)), (l488) = t491 → ∀ (A489 : Option Addr) (n490 : Nat) (c491 : Nat) (ac : Act) (w : World), FR 37 [] ac [(6, .slice A489 n490 c491)] → SH r (own k30 30 A489 n490 c491 l488 :: L) w → Kx314 ac w := by
    intro l488 ht A489 n490 c491 ac w hA hS
    subst ht
    replace hF : merge_All_x1_0 l488 = some y := hF
    unfold merge_All_x1_0 at hF
    exact hb1 l488 hF A489 n490 c491 ac w (hA.sub _ rfl) hS
  replace hS := SH.nil_own (d := k30) (e := 30) hS
  replace hS := hS.pk 2
  replace hS := hS.pk 2
  refine wp_loop_fn hl491 (fun s ac w => ∃ (A451 : Option Addr) (n452 : Nat) (c453 : Nat) (g454 : Nat), FR 37 [] ac [(4, .pointer p105), (6, .slice A451 n452 c453), (7, .pointer (some ⟨g454, 0, none⟩)), (9, .bool s.2.2.2.2.2.2.2)] ∧ SH r (blk g454 30 [.int .u64 s.2.2.1, .int .i64 s.2.2.2.1, .int .i64 s.2.2.2.2.1, str s.2.2.2.2.2.1, .float .f64 s.2.2.2.2.2.2.1] :: optP (obj48 Z wz) p105 s.1 :: own k30 30 A451 n452 c453 s.2.1 :: L) w) ⟨none, 0, 0, g313, hA.sub _ rfl, hS⟩ ?_
  intro N491 s491 o491 hF N491_ T491_ ac w hLab
  obtain ⟨o449, l450, x455, x456, x457, s458, x459, b460⟩ := s491
  replace hF : merge_All_l1 o449 l450 x455 x456 x457 s458 x459 b460 = some o491 := hF
  unfold merge_All_l1 at hF
  try dsimp only at hLab
  obtain ⟨A451, n452, c453, g454, hA, hS⟩ := hLab
  refine wp_seq_k fun K493 hK493 => ?_
  refine wp_seq_k fun K494 hK494 => ?_
  refine wp_reg ?_
  refine x_move hA (fun ac hA => ?_) rfl rfl rfl rfl rfl
  refine wpList_nil ?_
  refine hK494 _ _ ?_
  refine c_if hA rfl (fun hb495 => ?_) fun hb495 => ?_
  · replace hF := ift hb495 hF
    refine wp_skip ?_
    refine hK493 _ _ ?_
    refine wp_seq_k fun K496 hK496 => ?_
    refine wp_block_k fun Kx497 hKx497 => ?_
    refine wp_reg ?_
    refine x_move hA (fun ac hA => ?_) rfl rfl rfl rfl rfl
    refine x_lda (ad := ⟨g454, 0, none⟩) (cs := [.int .u64 x455, .int .i64 x456, .int .i64 x457, str s458, .float .f64 x459]) Try.underlying30 sz30 (fun j u h => by rw [add_mk, Nat.zero_add]; exact hS.cell 0 rfl j u h) hA (fun ac hA => ?_) rfl rfl rfl rfl rfl rfl
    refine x_bsl (d := k30) (e := 30) (ps := #[(0, .agg #[.int .u64 x455, .int .i64 x456, .int .i64 x457, str s458, .float .f64 x459])]) (cells := [.int .u64 x455, .int .i64 x456, .int .i64 x457, str s458, .float .f64 x459]) (xs := [(⟨x455, x456, x457, s458, x459⟩ : S30)]) (fun w => by kernel_rfl) rfl ⟨[.int .u64 x455, .int .i64 x456, .int .i64 x457, str s458, .float .f64 x459], _, rfl, rfl, rfl⟩ hA hS (fun g498 ac w hS hA => ?_) rfl rfl rfl rfl rfl rfl
    obtain ⟨h499, hF⟩ := chk_some hF
    have hr := hS.rd 0 rfl
    refine x_app 3 inf30 Try.underlying25 hA hS hr.1 hr.2.1 h499 rfl (fun A500 n501 c502 ac w hS hA => ?_) rfl rfl rfl rfl rfl rfl rfl rfl rfl
    refine x_assign hA (fun ac hA => ?_) rfl rfl rfl rfl rfl
    refine wpList_nil ?_
    refine hKx497 _ _ ?_
    refine hK496 _ _ ?_
    refine wp_seq_k fun K503 hK503 => ?_
    refine wp_seq_k fun K504 hK504 => ?_
    refine wp_reg ?_
    refine x_lda (ad := ⟨g454, 0, none⟩) (cs := [.int .u64 x455, .int .i64 x456, .int .i64 x457, str s458, .float .f64 x459]) Try.underlying30 sz30 (fun j u h => by rw [add_mk, Nat.zero_add]; exact hS.cell 2 rfl j u h) hA (fun ac hA => ?_) rfl rfl rfl rfl rfl rfl
    refine wpList_nil ?_
    refine hK504 _ _ ?_
    refine wp_reg ?_
    refine x_alloc (cs := [.int .u64 0, .int .i64 0, .int .i64 0, str [], .float .f64 0]) zr30 hA hS (fun g505 ac w hS hA => ?_) rfl rfl rfl rfl rfl
    refine x_stb 0 sz30 hA hS rfl (fun  ac w hS hA => ?_) rfl rfl rfl rfl rfl rfl rfl rfl
    refine wpList_nil ?_
    refine hK503 _ _ ?_
    refine wp_reg ?_
    refine x_move hA (fun ac hA => ?_) rfl rfl rfl rfl rfl
    replace hS := hS.pk 4
    obtain ⟨y506, h507, hF⟩ := bnd hF
    refine x_call en17 hA (F_merge_Tree_Next (L := blk g505 30 [.int .u64 x455, .int .i64 x456, .int .i64 x457, str s458, .float .f64 x459] :: own k30 30 A500 n501 c502 (l450 ++ [(⟨x455, x456, x457, s458, x459⟩ : S30)]) :: own k30 30 (some ⟨g498, 0, none⟩) 1 1 [(⟨x455, x456, x457, s458, x459⟩ : S30)] :: blk g454 30 [.int .u64 x455, .int .i64 x456, .int .i64 x457, str s458, .float .f64 x459] :: L) o449 p105 h507 (qz + 4) hZ hS) (fun v ac w hR hA => ?_) rfl rfl rfl rfl rfl
    obtain ⟨rfl, hS⟩ := hR
    refine x_move hA (fun ac hA => ?_) rfl rfl rfl rfl rfl
    refine x_val hA (r_extract rfl (hA.ev rfl) rfl) (fun ac hA => ?_) rfl rfl rfl
    refine x_val hA (r_extract rfl (hA.ev rfl) rfl) (fun ac hA => ?_) rfl rfl rfl
    refine x_val hA (r_extract rfl (hA.ev rfl) rfl) (fun ac hA => ?_) rfl rfl rfl
    refine x_stb 1 sz30 hA hS rfl (fun  ac w hS hA => ?_) rfl rfl rfl rfl rfl rfl rfl rfl
    refine x_assign hA (fun ac hA => ?_) rfl rfl rfl rfl rfl
    refine wpList_nil ?_
    replace hS := hS.drop 3
    replace hS := hS.drop 3
    cases hF
    exact ⟨_, N491_ _ rfl, A500, n501, c502, g505, hA.sub _ rfl, hS⟩
  replace hF := iff' hb495 hF
  refine wp_exit ?_
  replace hS := hS.drop 0
  replace hS := hS.drop 0
  cases hF
  exact hx491_0 l450 (T491_ _ rfl) A451 n452 c453 ac w (hA.sub _ rfl) hS

set_option maxHeartbeats 4000000 in
theorem F_law09_awake {r : World} {L : List HP} {w : World} {Z : Nat → Prop} {wz : World} {y : (Bool)} (hF : law09_awake = some y) (hS : SH r (zone Z wz :: L) w) :
    Ret Try.prog 10 #[] w fun v w' => ∃ (Z' : Nat → Prop) (wz' : World), v = .bool y ∧ Sub Z wz Z' wz' ∧ SH r (zone Z' wz' :: L) w' := by
  refine enter Try.func10 rfl Try.ntmps10 [] rfl (by simp) ?_
  intro ac hA Qf hQ hQn
  unfold law09_awake at hF
  refine wp_seq_k fun K101 hK101 => ?_
  refine wp_reg ?_
  refine x_assign hA (fun ac hA => ?_) rfl rfl rfl rfl rfl
  refine wpList_nil ?_
  refine hK101 _ _ ?_
  refine wp_seq_k fun K102 hK102 => ?_
  refine wp_reg ?_
  refine x_val (v := .agg #[.int .u64 0, .int .i64 0, .int .i64 0, str [97], .float .f64 0]) hA (r_build (ps := #[(3, str [97])]) rfl (mapev2 hA rfl) (fun w => by kernel_rfl)) (fun ac hA => ?_) rfl rfl rfl
  refine x_val (v := .agg #[.int .u64 0, .int .i64 0, .int .i64 0, str [99], .float .f64 0]) hA (r_build (ps := #[(3, str [99])]) rfl (mapev2 hA rfl) (fun w => by kernel_rfl)) (fun ac hA => ?_) rfl rfl rfl
  refine x_bsl (d := k30) (e := 30) (ps := #[(0, .agg #[.int .u64 0, .int .i64 0, .int .i64 0, str [97], .float .f64 0]), (1, .agg #[.int .u64 0, .int .i64 0, .int .i64 0, str [99], .float .f64 0])]) (cells := [.int .u64 0, .int .i64 0, .int .i64 0, str [97], .float .f64 0, .int .u64 0, .int .i64 0, .int .i64 0, str [99], .float .f64 0]) (xs := [(⟨0, 0, 0, [97], 0⟩ : S30), (⟨0, 0, 0, [99], 0⟩ : S30)]) (fun w => by kernel_rfl) rfl ⟨[.int .u64 0, .int .i64 0, .int .i64 0, str [97], .float .f64 0], _, rfl, rfl, ⟨[.int .u64 0, .int .i64 0, .int .i64 0, str [99], .float .f64 0], _, rfl, rfl, rfl⟩⟩ hA hS (fun g103 ac w hS hA => ?_) rfl rfl rfl rfl rfl rfl
  refine x_val (v := .agg #[.int .u64 0, .int .i64 0, .int .i64 0, str [98], .float .f64 0]) hA (r_build (ps := #[(3, str [98])]) rfl (mapev2 hA rfl) (fun w => by kernel_rfl)) (fun ac hA => ?_) rfl rfl rfl
  refine x_bsl (d := k30) (e := 30) (ps := #[(0, .agg #[.int .u64 0, .int .i64 0, .int .i64 0, str [98], .float .f64 0])]) (cells := [.int .u64 0, .int .i64 0, .int .i64 0, str [98], .float .f64 0]) (xs := [(⟨0, 0, 0, [98], 0⟩ : S30)]) (fun w => by kernel_rfl) rfl ⟨[.int .u64 0, .int .i64 0, .int .i64 0, str [98], .float .f64 0], _, rfl, rfl, rfl⟩ hA hS (fun g104 ac w hS hA => ?_) rfl rfl rfl rfl rfl rfl
  replace hS := hS.pk 2
  replace hS := hS.pk 2
  obtain ⟨Z105, wz106, hS, h107, sb108⟩ := SH.freeze (n := 2) (c := 2) (A := (some ⟨g103, 0, none⟩)) hS
  replace hS := hS.pk 0
  replace hS := hS.pk 1
  obtain ⟨Z109, wz110, hS, h111, sb112⟩ := SH.freeze (n := 1) (c := 1) (A := (some ⟨g104, 0, none⟩)) hS
  have h113 := Imm.sub h107 sb112
  refine x_bsl (d := (kM Z109 wz110 k30)) (e := 25) (ps := #[(0, .slice (some ⟨g103, 0, none⟩) 2 2), (1, .slice (some ⟨g104, 0, none⟩) 1 1)]) (cells := [.slice (some ⟨g103, 0, none⟩) 2 2, .slice (some ⟨g104, 0, none⟩) 1 1]) (xs := [[(⟨0, 0, 0, [97], 0⟩ : S30), (⟨0, 0, 0, [99], 0⟩ : S30)], [(⟨0, 0, 0, [98], 0⟩ : S30)]]) (fun w => by kernel_rfl) rfl ⟨[.slice (some ⟨g103, 0, none⟩) 2 2], _, rfl, ⟨_, _, _, rfl, h113⟩, ⟨[.slice (some ⟨g104, 0, none⟩) 1 1], _, rfl, ⟨_, _, _, rfl, h111⟩, rfl⟩⟩ hA hS (fun g114 ac w hS hA => ?_) rfl rfl rfl rfl rfl rfl
  obtain ⟨y115, h116, hF⟩ := bnd hF
  refine x_call en14 hA (F_merge_All (L := own (kM Z109 wz110 k30) 25 (some ⟨g114, 0, none⟩) 2 2 [[(⟨0, 0, 0, [97], 0⟩ : S30), (⟨0, 0, 0, [99], 0⟩ : S30)], [(⟨0, 0, 0, [98], 0⟩ : S30)]] :: zone Z109 wz110 :: L) [[(⟨0, 0, 0, [97], 0⟩ : S30), (⟨0, 0, 0, [99], 0⟩ : S30)], [(⟨0, 0, 0, [98], 0⟩ : S30)]] (some ⟨g114, 0, none⟩) 2 2 h116 1 rfl (RdL.own 0 rfl (hS.dropN 0)) hS) (fun v ac w hR hA => ?_) rfl rfl rfl rfl rfl
  obtain ⟨B117, m118, d119, rfl, hS⟩ := hR
  refine x_move hA (fun ac hA => ?_) rfl rfl rfl rfl rfl
  refine x_val hA (r_extract rfl (hA.ev rfl) rfl) (fun ac hA => ?_) rfl rfl rfl
  refine x_val hA (r_extract rfl (hA.ev rfl) rfl) (fun ac hA => ?_) rfl rfl rfl
  refine x_assign hA (fun ac hA => ?_) rfl rfl rfl rfl rfl
  refine x_assign hA (fun ac hA => ?_) rfl rfl rfl rfl rfl
  refine wpList_nil ?_
  refine hK102 _ _ ?_
  refine wp_seq_k fun K120 hK120 => ?_
  refine wp_reg ?_
  refine x_move hA (fun ac hA => ?_) rfl rfl rfl rfl rfl
  refine x_val hA (r_eqI rfl (hA.ev rfl) (hA.ev rfl)) (fun ac hA => ?_) rfl rfl rfl
  refine x_move hA (fun ac hA => ?_) rfl rfl rfl rfl rfl
  refine bcase (b := y115.2 == 0) (fun hb121 => ?_) fun hb121 => ?_
  · replace hF := ift hb121 hF
    refine x_on hb121 hA ?_ rfl rfl rfl
    refine x_move hA (fun ac hA => ?_) rfl rfl rfl rfl rfl
    refine x_on hb121 hA ?_ rfl rfl rfl
    refine x_len Try.underlying25 (hS.rd 0 rfl).2.1 hA (fun ac hA => ?_) rfl rfl rfl rfl rfl
    refine x_on hb121 hA ?_ rfl rfl rfl
    refine x_val hA (r_eqI rfl (hA.ev rfl) (hA.ev rfl)) (fun ac hA => ?_) rfl rfl rfl
    refine x_pickt hb121 hA (fun ac hA => ?_) rfl rfl rfl rfl rfl rfl
    refine x_move hA (fun ac hA => ?_) rfl rfl rfl rfl rfl
    refine bcase (b := (y115.1.length : Int) == 3) (fun hb122 => ?_) fun hb122 => ?_
    · replace hF := ift hb122 hF
      refine x_on hb122 hA ?_ rfl rfl rfl
      refine x_move hA (fun ac hA => ?_) rfl rfl rfl rfl rfl
      refine x_on hb122 hA ?_ rfl rfl rfl
      obtain ⟨x123, h124, hF⟩ := bnd hF
      refine x_ia Try.underlying25 sz30 (hS.rd 0 rfl) h124 hA (fun ac hA => ?_) rfl rfl rfl rfl rfl rfl
      refine x_on hb122 hA ?_ rfl rfl rfl
      refine x_fae fa30_3 hA (fun ac hA => ?_) rfl rfl rfl rfl rfl
      refine x_on hb122 hA ?_ rfl rfl rfl
      obtain ⟨cs, hV, hc125⟩ := el (hS.rd 0 rfl) h124
      obtain rfl := hV
      refine x_ld Try.underlying9 (hc125 3 _ rfl) hA (fun ac hA => ?_) rfl rfl rfl rfl rfl rfl
      refine x_on hb122 hA ?_ rfl rfl rfl
      refine x_val hA (r_eqS rfl (hA.ev rfl) (hA.ev rfl)) (fun ac hA => ?_) rfl rfl rfl
      refine x_pickt hb122 hA (fun ac hA => ?_) rfl rfl rfl rfl rfl rfl
      refine x_move hA (fun ac hA => ?_) rfl rfl rfl rfl rfl
      refine bcase (b := x123.f3 == [98]) (fun hb126 => ?_) fun hb126 => ?_
      · replace hF := ift hb126 hF
        refine x_pickt hb126 hA (fun ac hA => ?_) rfl rfl rfl rfl rfl rfl
        refine x_assign hA (fun ac hA => ?_) rfl rfl rfl rfl rfl
        refine wpList_nil ?_
        refine hK120 _ _ ?_
        refine wp_ret ?_
        replace hS := hS.drop 0
        replace hS := hS.drop 0
        cases hF
        refine hQ _ _ ?_
        refine lv Try.results10 hA rfl ?_
        exact ⟨Z109, wz110, rfl, (Sub.trans sb108 sb112), hS⟩
      replace hF := iff' hb126 hF
      refine x_pickf hb126 hA (fun ac hA => ?_) rfl rfl rfl rfl rfl rfl
      refine x_assign hA (fun ac hA => ?_) rfl rfl rfl rfl rfl
      refine wpList_nil ?_
      refine hK120 _ _ ?_
      refine wp_ret ?_
      replace hS := hS.drop 0
      replace hS := hS.drop 0
      cases hF
      refine hQ _ _ ?_
      refine lv Try.results10 hA rfl ?_
      exact ⟨Z109, wz110, rfl, (Sub.trans sb108 sb112), hS⟩
    replace hF := iff' hb122 hF
    refine x_off hb122 hA (fun ac hA => ?_) rfl rfl rfl rfl rfl
    refine x_off hb122 hA (fun ac hA => ?_) rfl rfl rfl rfl rfl
    refine x_off hb122 hA (fun ac hA => ?_) rfl rfl rfl rfl rfl
    refine x_off hb122 hA (fun ac hA => ?_) rfl rfl rfl rfl rfl
    refine x_off hb122 hA (fun ac hA => ?_) rfl rfl rfl rfl rfl
    refine x_pickf hb122 hA (fun ac hA => ?_) rfl rfl rfl rfl rfl rfl
    refine x_move hA (fun ac hA => ?_) rfl rfl rfl rfl rfl
    refine x_pickf rfl hA (fun ac hA => ?_) rfl rfl rfl rfl rfl rfl
    refine x_assign hA (fun ac hA => ?_) rfl rfl rfl rfl rfl
    refine wpList_nil ?_
    refine hK120 _ _ ?_
    refine wp_ret ?_
    replace hS := hS.drop 0
    replace hS := hS.drop 0
    cases hF
    refine hQ _ _ ?_
    refine lv Try.results10 hA rfl ?_
    exact ⟨Z109, wz110, rfl, (Sub.trans sb108 sb112), hS⟩
  replace hF := iff' hb121 hF
  refine x_off hb121 hA (fun ac hA => ?_) rfl rfl rfl rfl rfl
  refine x_off hb121 hA (fun ac hA => ?_) rfl rfl rfl rfl rfl
  refine x_off hb121 hA (fun ac hA => ?_) rfl rfl rfl rfl rfl
  refine x_pickf hb121 hA (fun ac hA => ?_) rfl rfl rfl rfl rfl rfl
  refine x_move hA (fun ac hA => ?_) rfl rfl rfl rfl rfl
  refine x_off rfl hA (fun ac hA => ?_) rfl rfl rfl rfl rfl
  refine x_off rfl hA (fun ac hA => ?_) rfl rfl rfl rfl rfl
  refine x_off rfl hA (fun ac hA => ?_) rfl rfl rfl rfl rfl
  refine x_off rfl hA (fun ac hA => ?_) rfl rfl rfl rfl rfl
  refine x_off rfl hA (fun ac hA => ?_) rfl rfl rfl rfl rfl
  refine x_pickf rfl hA (fun ac hA => ?_) rfl rfl rfl rfl rfl rfl
  refine x_move hA (fun ac hA => ?_) rfl rfl rfl rfl rfl
  refine x_pickf rfl hA (fun ac hA => ?_) rfl rfl rfl rfl rfl rfl
  refine x_assign hA (fun ac hA => ?_) rfl rfl rfl rfl rfl
  refine wpList_nil ?_
  refine hK120 _ _ ?_
  refine wp_ret ?_
  replace hS := hS.drop 0
  replace hS := hS.drop 0
  cases hF
  refine hQ _ _ ?_
  refine lv Try.results10 hA rfl ?_
  exact ⟨Z109, wz110, rfl, (Sub.trans sb108 sb112), hS⟩

set_option maxHeartbeats 4000000 in
theorem F_law09_MergeOrder {r : World} {L : List HP} {w : World} {Z : Nat → Prop} {wz : World} (a0 : (List (List S30))) (A0 : Option Addr) (n0 : Nat) (c0 : Nat) {y : (Bool)} (hF : law09_MergeOrder a0 = some y) (ha0 : Imm Z wz (kM Z wz k30) A0 n0 c0 a0) (hS : SH r (zone Z wz :: L) w) :
    Ret Try.prog 3 #[.slice A0 n0 c0] w fun v w' => ∃ (Z' : Nat → Prop) (wz' : World), v = .bool y ∧ Sub Z wz Z' wz' ∧ SH r (zone Z' wz' :: L) w' := by
  refine enter Try.func3 rfl Try.ntmps3 [(0, .slice A0 n0 c0)] rfl (by simp) ?_
  intro ac hA Qf hQ hQn
  unfold law09_MergeOrder at hF
  refine wp_seq_k fun K101 hK101 => ?_
  refine wp_reg ?_
  refine x_assign hA (fun ac hA => ?_) rfl rfl rfl rfl rfl
  refine wpList_nil ?_
  refine hK101 _ _ ?_
  refine wp_seq_k fun K102 hK102 => ?_
  refine wp_seq_k fun K103 hK103 => ?_
  have hj1 : ∀ (b119 : Bool), law09_MergeOrder_j1 a0 b119 = some y → ∀ (Z115 : Nat → Prop) (wz116 : World) (h117 : Sub Z wz Z115 wz116) (h118 : Imm Z115 wz116 (kM Z115 wz116 k30) A0 n0 c0 a0) (ac : Act) (w : World), FR 89 [] ac [(0, .slice A0 n0 c0), (26, .bool b119)] → SH r (zone Z115 wz116 :: L) w → K103 ac w := by
    intro b119 hF Z115 wz116 h117 h118 ac w hA hS
    unfold law09_MergeOrder_j1 at hF
    refine hK103 _ _ ?_
    refine c_if hA rfl (fun hb120 => ?_) fun hb120 => ?_
    · replace hF := ift hb120 hF
      refine wp_seq_k fun K121 hK121 => ?_
      refine wp_reg ?_
      obtain ⟨y122, h123, hF⟩ := bnd hF
      refine x_call en10 hA (F_law09_awake (L := L) h123 hS) (fun v ac w hR hA => ?_) rfl rfl rfl rfl rfl
      obtain ⟨Z124, wz125, rfl, h126, hS⟩ := hR
      have h127 := Imm.kind (d' := (kM Z124 wz125 k30)) (Imm.sub h118 h126) rfl (kM_sub h126)
      refine x_assign hA (fun ac hA => ?_) rfl rfl rfl rfl rfl
      refine wpList_nil ?_
      refine hK121 _ _ ?_
      refine wp_ret ?_
      cases hF
      refine hQ _ _ ?_
      refine lv Try.results3 hA rfl ?_
      exact ⟨Z124, wz125, rfl, (Sub.trans h117 h126), hS⟩
    replace hF := iff' hb120 hF
    refine wp_skip ?_
    refine hK102 _ _ ?_
    refine wp_seq_k fun K128 hK128 => ?_
    refine wp_reg ?_
    refine x_assign hA (fun ac hA => ?_) rfl rfl rfl rfl rfl
    refine wpList_nil ?_
    refine hK128 _ _ ?_
    refine wp_seq_k fun K129 hK129 => ?_
    refine wp_seq_k fun K13930 hK13930 => ?_
    refine wp_reg ?_
    refine x_assign hA (fun ac hA => ?_) rfl rfl rfl rfl rfl
    refine wpList_nil ?_
    refine hK13930 _ _ ?_
    refine wp_block_k fun Kx13931 hKx13931 => ?_
    have hb1 : ∀ (b20830 : Bool), law09_MergeOrder_b1 a0 b20830 = some y → ∀ (ac : Act) (w : World), FR 89 [] ac [(0, .slice A0 n0 c0), (3, .bool b20830)] → SH r (zone Z115 wz116 :: L) w → Kx13931 ac w := by
      intro b20830 hF ac w hA hS
      unfold law09_MergeOrder_b1 at hF
      refine hKx13931 _ _ ?_
      refine hK129 _ _ ?_
      refine wp_seq_k fun K20831 hK20831 => ?_
      refine wp_reg ?_
      refine x_move hA (fun ac hA => ?_) rfl rfl rfl rfl rfl
      obtain ⟨y20832, h20833, hF⟩ := bnd hF
      refine x_call en13 hA (F_merge_New (L := zone Z115 wz116 :: L) a0 A0 n0 c0 h20833 0 rfl (h118.rdl 0 rfl) hS) (fun v ac w hR hA => ?_) rfl rfl rfl rfl rfl
      obtain ⟨p20834, rfl, hS⟩ := hR
      refine x_move hA (fun ac hA => ?_) rfl rfl rfl rfl rfl
      refine x_val hA (r_extract rfl (hA.ev rfl) rfl) (fun ac hA => ?_) rfl rfl rfl
      refine x_val hA (r_extract rfl (hA.ev rfl) rfl) (fun ac hA => ?_) rfl rfl rfl
      refine x_assign hA (fun ac hA => ?_) rfl rfl rfl rfl rfl
      refine x_assign hA (fun ac hA => ?_) rfl rfl rfl rfl rfl
      refine wpList_nil ?_
      refine hK20831 _ _ ?_
      refine wp_seq_k fun K20835 hK20835 => ?_
      refine wp_reg ?_
      refine x_move hA (fun ac hA => ?_) rfl rfl rfl rfl rfl
      obtain ⟨y20836, h20837, hF⟩ := bnd hF
      refine x_call en14 hA (F_merge_All (L := optP (obj48 Z115 wz116) p20834 y20832.1 :: zone Z115 wz116 :: L) a0 A0 n0 c0 h20837 1 rfl (h118.rdl 1 rfl) hS) (fun v ac w hR hA => ?_) rfl rfl rfl rfl rfl
      obtain ⟨B20838, m20839, d20840, rfl, hS⟩ := hR
      refine x_move hA (fun ac hA => ?_) rfl rfl rfl rfl rfl
      refine x_val hA (r_extract rfl (hA.ev rfl) rfl) (fun ac hA => ?_) rfl rfl rfl
      refine x_val hA (r_extract rfl (hA.ev rfl) rfl) (fun ac hA => ?_) rfl rfl rfl
      refine x_assign hA (fun ac hA => ?_) rfl rfl rfl rfl rfl
      refine x_assign hA (fun ac hA => ?_) rfl rfl rfl rfl rfl
      refine wpList_nil ?_
      refine hK20835 _ _ ?_
      refine wp_seq_k fun K20841 hK20841 => ?_
      refine wp_reg ?_
      refine x_move hA (fun ac hA => ?_) rfl rfl rfl rfl rfl
      refine x_move hA (fun ac hA => ?_) rfl rfl rfl rfl rfl
      refine x_val hA (r_eqI rfl (hA.ev rfl) (hA.ev rfl)) (fun ac hA => ?_) rfl rfl rfl
      refine x_val hA (r_eqB Try.underlying4 rfl (hA.ev rfl) (hA.ev rfl)) (fun ac hA => ?_) rfl rfl rfl
      refine x_move hA (fun ac hA => ?_) rfl rfl rfl rfl rfl
      refine bcase (b := b20830 == (y20832.2 == 0)) (fun hb20842 => ?_) fun hb20842 => ?_
      · replace hF := ift hb20842 hF
        refine x_on hb20842 hA ?_ rfl rfl rfl
        refine x_move hA (fun ac hA => ?_) rfl rfl rfl rfl rfl
        refine x_on hb20842 hA ?_ rfl rfl rfl
        refine x_move hA (fun ac hA => ?_) rfl rfl rfl rfl rfl
        refine x_on hb20842 hA ?_ rfl rfl rfl
        refine x_val hA (r_eqI rfl (hA.ev rfl) (hA.ev rfl)) (fun ac hA => ?_) rfl rfl rfl
        refine x_pickt hb20842 hA (fun ac hA => ?_) rfl rfl rfl rfl rfl rfl
        refine x_move hA (fun ac hA => ?_) rfl rfl rfl rfl rfl
        refine bcase (b := y20832.2 == y20836.2) (fun hb20843 => ?_) fun hb20843 => ?_
        · replace hF := ift hb20843 hF
          refine x_on hb20843 hA ?_ rfl rfl rfl
          refine x_move hA (fun ac hA => ?_) rfl rfl rfl rfl rfl
          refine x_on hb20843 hA ?_ rfl rfl rfl
          refine x_move hA (fun ac hA => ?_) rfl rfl rfl rfl rfl
          refine bcase (b := b20830) (fun hb20844 => ?_) fun hb20844 => ?_
          · replace hF := ift hb20844 hF
            refine x_off hb20844 hA (fun ac hA => ?_) rfl rfl rfl rfl rfl
            refine x_off hb20844 hA (fun ac hA => ?_) rfl rfl rfl rfl rfl
            refine x_on hb20843 hA ?_ rfl rfl rfl
            refine x_pickt hb20844 hA (fun ac hA => ?_) rfl rfl rfl rfl rfl rfl
            refine x_pickt hb20843 hA (fun ac hA => ?_) rfl rfl rfl rfl rfl rfl
            refine x_assign hA (fun ac hA => ?_) rfl rfl rfl rfl rfl
            refine wpList_nil ?_
            refine hK20841 _ _ ?_
            refine wp_ret ?_
            replace hS := hS.drop 0
            replace hS := hS.drop 0
            cases hF
            refine hQ _ _ ?_
            refine lv Try.results3 hA rfl ?_
            exact ⟨Z115, wz116, rfl, h117, hS⟩
          replace hF := iff' hb20844 hF
          refine x_on hb20844 hA ?_ rfl rfl rfl
          refine x_move hA (fun ac hA => ?_) rfl rfl rfl rfl rfl
          refine x_on hb20844 hA ?_ rfl rfl rfl
          refine x_val hA (r_eqI rfl (hA.ev rfl) (hA.ev rfl)) (fun ac hA => ?_) rfl rfl rfl
          refine x_on hb20843 hA ?_ rfl rfl rfl
          refine x_pickf hb20844 hA (fun ac hA => ?_) rfl rfl rfl rfl rfl rfl
          refine x_pickt hb20843 hA (fun ac hA => ?_) rfl rfl rfl rfl rfl rfl
          refine x_assign hA (fun ac hA => ?_) rfl rfl rfl rfl rfl
          refine wpList_nil ?_
          refine hK20841 _ _ ?_
          refine wp_ret ?_
          replace hS := hS.drop 0
          replace hS := hS.drop 0
          cases hF
          refine hQ _ _ ?_
          refine lv Try.results3 hA rfl ?_
          exact ⟨Z115, wz116, rfl, h117, hS⟩
        replace hF := iff' hb20843 hF
        refine x_off hb20843 hA (fun ac hA => ?_) rfl rfl rfl rfl rfl
        refine x_off hb20843 hA (fun ac hA => ?_) rfl rfl rfl rfl rfl
        refine x_offU hA (fun ac hA => ?_) rfl rfl rfl rfl rfl
        refine x_offU hA (fun ac hA => ?_) rfl rfl rfl rfl rfl
        refine x_off hb20843 hA (fun ac hA => ?_) rfl rfl rfl rfl rfl
        refine x_pickf hb20843 hA (fun ac hA => ?_) rfl rfl rfl rfl rfl rfl
        refine x_assign hA (fun ac hA => ?_) rfl rfl rfl rfl rfl
        refine wpList_nil ?_
        refine hK20841 _ _ ?_
        refine wp_ret ?_
        replace hS := hS.drop 0
        replace hS := hS.drop 0
        cases hF
        refine hQ _ _ ?_
        refine lv Try.results3 hA rfl ?_
        exact ⟨Z115, wz116, rfl, h117, hS⟩
      replace hF := iff' hb20842 hF
      refine x_off hb20842 hA (fun ac hA => ?_) rfl rfl rfl rfl rfl
      refine x_off hb20842 hA (fun ac hA => ?_) rfl rfl rfl rfl rfl
      refine x_off hb20842 hA (fun ac hA => ?_) rfl rfl rfl rfl rfl
      refine x_pickf hb20842 hA (fun ac hA => ?_) rfl rfl rfl rfl rfl rfl
      refine x_move hA (fun ac hA => ?_) rfl rfl rfl rfl rfl
      refine x_off rfl hA (fun ac hA => ?_) rfl rfl rfl rfl rfl
      refine x_off rfl hA (fun ac hA => ?_) rfl rfl rfl rfl rfl
      refine x_offU hA (fun ac hA => ?_) rfl rfl rfl rfl rfl
      refine x_offU hA (fun ac hA => ?_) rfl rfl rfl rfl rfl
      refine x_off rfl hA (fun ac hA => ?_) rfl rfl rfl rfl rfl
      refine x_pickf rfl hA (fun ac hA => ?_) rfl rfl rfl rfl rfl rfl
      refine x_assign hA (fun ac hA => ?_) rfl rfl rfl rfl rfl
      refine wpList_nil ?_
      refine hK20841 _ _ ?_
      refine wp_ret ?_
      replace hS := hS.drop 0
      replace hS := hS.drop 0
      cases hF
      refine hQ _ _ ?_
      refine lv Try.results3 hA rfl ?_
      exact ⟨Z115, wz116, rfl, h117, hS⟩
    obtain ⟨t25423, hl25423, hF⟩ := bnd hF
    have hx25423_0 : ∀ (b25423 : Bool), (b25423) = t25423 → ∀ (ac : Act) (w : World), FR 89 [] ac [(0, .slice A0 n0 c0), (3, .bool b25423)] → SH r (zone Z115 wz116 :: L) w → Kx13931 ac w := by
      intro b25423 ht ac w hA hS
      subst ht
      replace hF : law09_MergeOrder_x1_0 a0 b25423 = some y := hF
      unfold law09_MergeOrder_x1_0 at hF
      exact hb1 b25423 hF ac w (hA.sub _ rfl) hS
    refine wp_loop_fn hl25423 (fun s ac w => FR 89 [] ac [(0, .slice A0 n0 c0), (3, .bool s.1), (4, .int .i64 s.2)] ∧ SH r (zone Z115 wz116 :: L) w) ⟨hA.sub _ rfl, hS⟩ ?_
    intro N25423 s25423 o25423 hF N25423_ T25423_ ac w hLab
    obtain ⟨b23101, x23102⟩ := s25423
    replace hF : law09_MergeOrder_l1 a0 b23101 x23102 = some o25423 := hF
    unfold law09_MergeOrder_l1 at hF
    try dsimp only at hLab
    obtain ⟨hA, hS⟩ := hLab
    refine wp_seq_k fun K25425 hK25425 => ?_
    refine wp_seq_k fun K25426 hK25426 => ?_
    refine wp_reg ?_
    refine x_move hA (fun ac hA => ?_) rfl rfl rfl rfl rfl
    refine x_move hA (fun ac hA => ?_) rfl rfl rfl rfl rfl
    refine x_len Try.underlying22 (hS.imm 0 h118 rfl).2.1 hA (fun ac hA => ?_) rfl rfl rfl rfl rfl
    refine x_val hA (r_ltI rfl (hA.ev rfl) (hA.ev rfl)) (fun ac hA => ?_) rfl rfl rfl
    refine wpList_nil ?_
    refine hK25426 _ _ ?_
    refine c_if hA rfl (fun hb25427 => ?_) fun hb25427 => ?_
    · replace hF := ift hb25427 hF
      refine wp_skip ?_
      refine hK25425 _ _ ?_
      refine wp_seq_k fun K25428 hK25428 => ?_
      refine wp_block_k fun Kx26586 hKx26586 => ?_
      refine wp_seq_k fun K27165 hK27165 => ?_
      refine wp_reg ?_
      refine x_assign hA (fun ac hA => ?_) rfl rfl rfl rfl rfl
      refine wpList_nil ?_
      refine hK27165 _ _ ?_
      refine wp_block_k fun Kx27166 hKx27166 => ?_
      have hb2 : ∀ (b27454 : Bool), law09_MergeOrder_b2 x23102 b27454 = some o25423 → ∀ (ac : Act) (w : World), FR 89 [] ac [(0, .slice A0 n0 c0), (3, .bool b27454), (4, .int .i64 x23102)] → SH r (zone Z115 wz116 :: L) w → Kx27166 ac w := by
        intro b27454 hF ac w hA hS
        unfold law09_MergeOrder_b2 at hF
        refine hKx27166 _ _ ?_
        refine hKx26586 _ _ ?_
        refine hK25428 _ _ ?_
        refine wp_reg ?_
        refine x_move hA (fun ac hA => ?_) rfl rfl rfl rfl rfl
        refine x_val hA (r_add rfl (hA.ev rfl) (hA.ev rfl)) (fun ac hA => ?_) rfl rfl rfl
        refine x_assign hA (fun ac hA => ?_) rfl rfl rfl rfl rfl
        refine wpList_nil ?_
        cases hF
        exact ⟨_, N25423_ _ rfl, hA.sub _ rfl, hS⟩
      obtain ⟨t27647, hl27647, hF⟩ := bnd hF
      have hx27647_2 : ∀ (b27647 : Bool), (b27647) = t27647 → ∀ (ac : Act) (w : World), FR 89 [] ac [(0, .slice A0 n0 c0), (3, .bool b27647), (4, .int .i64 x23102)] → SH r (zone Z115 wz116 :: L) w → Kx27166 ac w := by
        intro b27647 ht ac w hA hS
        subst ht
        replace hF : law09_MergeOrder_x2_2 x23102 b27647 = some o25423 := hF
        unfold law09_MergeOrder_x2_2 at hF
        exact hb2 b27647 hF ac w (hA.sub _ rfl) hS
      refine wp_loop_fn hl27647 (fun s ac w => FR 89 [] ac [(0, .slice A0 n0 c0), (3, .bool s.1), (4, .int .i64 x23102), (5, .int .i64 s.2)] ∧ SH r (zone Z115 wz116 :: L) w) ⟨hA.sub _ rfl, hS⟩ ?_
      intro N27647 s27647 o27647 hF N27647_ T27647_ ac w hLab
      obtain ⟨b27550, x27551⟩ := s27647
      replace hF : law09_MergeOrder_l2 a0 x23102 b27550 x27551 = some o27647 := hF
      unfold law09_MergeOrder_l2 at hF
      try dsimp only at hLab
      obtain ⟨hA, hS⟩ := hLab
      refine wp_seq_k fun K27649 hK27649 => ?_
      refine wp_seq_k fun K27650 hK27650 => ?_
      refine wp_reg ?_
      refine x_move hA (fun ac hA => ?_) rfl rfl rfl rfl rfl
      refine x_move hA (fun ac hA => ?_) rfl rfl rfl rfl rfl
      refine x_move hA (fun ac hA => ?_) rfl rfl rfl rfl rfl
      obtain ⟨x27651, h27652, hF⟩ := bnd hF
      refine x_ia Try.underlying22 sz25 (hS.imm 0 h118 rfl) h27652 hA (fun ac hA => ?_) rfl rfl rfl rfl rfl rfl
      obtain ⟨cs, hV, hc27653⟩ := el (hS.imm 0 h118 rfl) h27652
      obtain ⟨A27654, n27655, c27656, rfl, h27657⟩ := hV
      refine x_ld Try.underlying25 (hc27653 0 _ rfl) hA (fun ac hA => ?_) rfl rfl rfl rfl rfl rfl
      refine x_len Try.underlying25 (hS.imm 0 h27657 rfl).2.1 hA (fun ac hA => ?_) rfl rfl rfl rfl rfl
      refine x_val hA (r_ltI rfl (hA.ev rfl) (hA.ev rfl)) (fun ac hA => ?_) rfl rfl rfl
      refine wpList_nil ?_
      refine hK27650 _ _ ?_
      refine c_if hA rfl (fun hb27658 => ?_) fun hb27658 => ?_
      · replace hF := ift hb27658 hF
        refine wp_skip ?_
        refine hK27649 _ _ ?_
        refine wp_seq_k fun K27659 hK27659 => ?_
        refine wp_block_k fun Kx27701 hKx27701 => ?_
        have hb3 : ∀ (b27721 : Bool), law09_MergeOrder_b3 x27551 b27721 = some o27647 → ∀ (ac : Act) (w : World), FR 89 [] ac [(0, .slice A0 n0 c0), (3, .bool b27721), (4, .int .i64 x23102), (5, .int .i64 x27551)] → SH r (zone Z115 wz116 :: L) w → Kx27701 ac w := by
          intro b27721 hF ac w hA hS
          unfold law09_MergeOrder_b3 at hF
          refine hKx27701 _ _ ?_
          refine hK27659 _ _ ?_
          refine wp_reg ?_
          refine x_move hA (fun ac hA => ?_) rfl rfl rfl rfl rfl
          refine x_val hA (r_add rfl (hA.ev rfl) (hA.ev rfl)) (fun ac hA => ?_) rfl rfl rfl
          refine x_assign hA (fun ac hA => ?_) rfl rfl rfl rfl rfl
          refine wpList_nil ?_
          cases hF
          exact ⟨_, N27647_ _ rfl, hA.sub _ rfl, hS⟩
        refine wp_draw [0, 1, 3, 3, 15, 31, 3, 127, 255, 3, 3, 1539, 3587, 3, 8195, 32259, 65027, 131071, 262143, 524287, 1048575] [17] rfl hA hS (by kernel_rfl) (by kernel_rfl) (by kernel_rfl) (by kernel_rfl) fun w hS => ?_
        refine bcase (b := b27550) (fun hb27722 => ?_) fun hb27722 => ?_
        · replace hF := ift hb27722 hF
          obtain ⟨cs, hV, hc27723⟩ := el (hS.imm 0 h118 rfl) h27652
          obtain ⟨A27724, n27725, c27726, rfl, h27727⟩ := hV
          obtain ⟨x27728, h27729, hF⟩ := bnd hF
          obtain ⟨cs, hV, hc27730⟩ := el (hS.imm 0 h27727 rfl) h27729
          obtain rfl := hV
          obtain ⟨cs, hV, hc27731⟩ := el (hS.imm 0 h118 rfl) h27652
          obtain ⟨A27732, n27733, c27734, rfl, h27735⟩ := hV
          obtain ⟨x27736, h27737, hF⟩ := bnd hF
          obtain ⟨cs, hV, hc27738⟩ := el (hS.imm 0 h27735 rfl) h27737
          obtain rfl := hV
          refine ⟨[(0, .bool b27550), (1, .bool b27550), (2, .slice A0 n0 c0), (3, .int .i64 x23102), (4, .pointer (some (ea A0 (x23102.toNat * 1)))), (5, .slice A27724 n27725 c27726), (6, .int .i64 x27551), (7, .pointer (some (ea A27724 (x27551.toNat * 5)))), (8, .agg #[.int .u64 x27728.f0, .int .i64 x27728.f1, .int .i64 x27728.f2, str x27728.f3, .float .f64 x27728.f4]), (9, .slice A0 n0 c0), (10, .int .i64 x23102), (11, .pointer (some (ea A0 (x23102.toNat * 1)))), (12, .slice A27732 n27733 c27734), (13, .int .i64 x27551), (14, .int .i64 (IntKind.i64.wrap (x27551 - 1))), (15, .pointer (some (ea A27732 ((IntKind.i64.wrap (x27551 - 1)).toNat * 5)))), (16, .agg #[.int .u64 x27736.f0, .int .i64 x27736.f1, .int .i64 x27736.f2, str x27736.f3, .float .f64 x27736.f4])], ?_⟩
          refine dEff [0, 1, 2, 3, 4, 5, 6, 7, 8, 9, 10, 11, 12, 13, 14, 15, 16] [17] (by kernel_rfl) ⟨pu rfl rfl [(3, .bool b27550)] (fun ac hA => y_move hA rfl rfl) rfl rfl, pu rfl rfl [(43, .bool b27550)] (fun ac hA => y_move hA rfl rfl) rfl rfl, puOn rfl rfl rfl rfl [(0, .slice A0 n0 c0), (44, .bool b27550)] rfl hb27722 (fun ac hA => y_move hA rfl rfl) rfl, puOn rfl rfl rfl rfl [(4, .int .i64 x23102), (44, .bool b27550)] rfl hb27722 (fun ac hA => y_move hA rfl rfl) rfl, puOn rfl rfl rfl rfl [(44, .bool b27550), (45, .slice A0 n0 c0), (46, .int .i64 x23102)] rfl hb27722 (fun ac hA => y_ia Try.underlying22 sz25 (hS.imm 0 h118 rfl) h27652 hA rfl rfl rfl) rfl, puOn rfl rfl rfl rfl [(44, .bool b27550), (47, .pointer (some (ea A0 (x23102.toNat * 1))))] rfl hb27722 (fun ac hA => y_ld Try.underlying25 (hc27723 0 _ rfl) hA rfl rfl rfl) rfl, puOn rfl rfl rfl rfl [(5, .int .i64 x27551), (44, .bool b27550)] rfl hb27722 (fun ac hA => y_move hA rfl rfl) rfl, puOn rfl rfl rfl rfl [(44, .bool b27550), (48, .slice A27724 n27725 c27726), (49, .int .i64 x27551)] rfl hb27722 (fun ac hA => y_ia Try.underlying25 sz30 (hS.imm 0 h27727 rfl) h27729 hA rfl rfl rfl) rfl, puOn rfl rfl rfl rfl [(44, .bool b27550), (50, .pointer (some (ea A27724 (x27551.toNat * 5))))] rfl hb27722 (fun ac hA => y_lda (cs := [.int .u64 x27728.f0, .int .i64 x27728.f1, .int .i64 x27728.f2, str x27728.f3, .float .f64 x27728.f4]) Try.underlying30 sz30 (fun j u h => by rw [ea_add]; exact hc27730 _ _ h) hA rfl rfl rfl) rfl, puOn rfl rfl rfl rfl [(0, .slice A0 n0 c0), (44, .bool b27550)] rfl hb27722 (fun ac hA => y_move hA rfl rfl) rfl, puOn rfl rfl rfl rfl [(4, .int .i64 x23102), (44, .bool b27550)] rfl hb27722 (fun ac hA => y_move hA rfl rfl) rfl, puOn rfl rfl rfl rfl [(44, .bool b27550), (52, .slice A0 n0 c0), (53, .int .i64 x23102)] rfl hb27722 (fun ac hA => y_ia Try.underlying22 sz25 (hS.imm 0 h118 rfl) h27652 hA rfl rfl rfl) rfl, puOn rfl rfl rfl rfl [(44, .bool b27550), (54, .pointer (some (ea A0 (x23102.toNat * 1))))] rfl hb27722 (fun ac hA => y_ld Try.underlying25 (hc27731 0 _ rfl) hA rfl rfl rfl) rfl, puOn rfl rfl rfl rfl [(5, .int .i64 x27551), (44, .bool b27550)] rfl hb27722 (fun ac hA => y_move hA rfl rfl) rfl, puOn rfl rfl rfl rfl [(44, .bool b27550), (56, .int .i64 x27551)] rfl hb27722 (fun ac hA => r_sub rfl (hA.ev rfl) (hA.ev rfl)) rfl, puOn rfl rfl rfl rfl [(44, .bool b27550), (55, .slice A27732 n27733 c27734), (57, .int .i64 (IntKind.i64.wrap (x27551 - 1)))] rfl hb27722 (fun ac hA => y_ia Try.underlying25 sz30 (hS.imm 0 h27735 rfl) h27737 hA rfl rfl rfl) rfl, puOn rfl rfl rfl rfl [(44, .bool b27550), (58, .pointer (some (ea A27732 ((IntKind.i64.wrap (x27551 - 1)).toNat * 5))))] rfl hb27722 (fun ac hA => y_lda (cs := [.int .u64 x27736.f0, .int .i64 x27736.f1, .int .i64 x27736.f2, str x27736.f3, .float .f64 x27736.f4]) Try.underlying30 sz30 (fun j u h => by rw [ea_add]; exact hc27738 _ _ h) hA rfl rfl rfl) rfl, trivial⟩ (by kernel_rfl) (by kernel_rfl) ⟨efOn rfl rfl rfl [(44, .bool b27550), (51, .agg #[.int .u64 x27728.f0, .int .i64 x27728.f1, .int .i64 x27728.f2, str x27728.f3, .float .f64 x27728.f4]), (59, .agg #[.int .u64 x27736.f0, .int .i64 x27736.f1, .int .i64 x27736.f2, str x27736.f3, .float .f64 x27736.f4])] rfl hb27722 (fun ac hA K hK => ?_) rfl, trivial⟩
          obtain ⟨y27739, h27740, hF⟩ := bnd hF
          refine z_call en12 hA (F_r06_Before (L := zone Z115 wz116 :: L) x27728 x27736 h27740 hS) (fun v w hR => ?_) rfl rfl
          obtain ⟨rfl, hS⟩ := hR
          refine hK _ [(18, .bool (!y27739)), (19, .bool (!y27739)), (20, .bool (!y27739))] _ rfl ?_
          refine dEnd [18, 19, 20] (by kernel_rfl) ⟨puOn rfl rfl rfl rfl [(44, .bool b27550), (60, .bool y27739)] rfl hb27722 (fun ac hA => r_not rfl (hA.ev rfl)) rfl, pu rfl rfl [(44, .bool b27550), (61, .bool (!y27739))] (fun ac hA => y_pickt hb27722 hA rfl rfl rfl) rfl rfl, pu rfl rfl [(62, .bool (!y27739))] (fun ac hA => y_assign hA rfl rfl) rfl rfl, trivial⟩ ⟨by kernel_rfl, by kernel_rfl⟩ [(0, .slice A0 n0 c0), (3, .bool (!y27739)), (4, .int .i64 x23102), (5, .int .i64 x27551), (45, .slice A0 n0 c0), (46, .int .i64 x23102), (48, .slice A27724 n27725 c27726), (49, .int .i64 x27551), (51, .agg #[.int .u64 x27728.f0, .int .i64 x27728.f1, .int .i64 x27728.f2, str x27728.f3, .float .f64 x27728.f4]), (52, .slice A0 n0 c0), (53, .int .i64 x23102), (55, .slice A27732 n27733 c27734), (56, .int .i64 x27551), (57, .int .i64 (IntKind.i64.wrap (x27551 - 1))), (59, .agg #[.int .u64 x27736.f0, .int .i64 x27736.f1, .int .i64 x27736.f2, str x27736.f3, .float .f64 x27736.f4]), (60, .bool y27739), (61, .bool (!y27739))] rfl (fun ac hA => ?_)
          exact hb3 (!y27739) hF ac w (hA.sub _ rfl) hS
        replace hF := iff' hb27722 hF
        refine ⟨[(0, .bool b27550), (1, .bool b27550), (2, undef), (3, undef), (4, undef), (5, undef), (6, undef), (7, undef), (8, undef), (9, undef), (10, undef), (11, undef), (12, undef), (13, undef), (14, undef), (15, undef), (16, undef)], ?_⟩
        refine dEff [0, 1, 2, 3, 4, 5, 6, 7, 8, 9, 10, 11, 12, 13, 14, 15, 16] [17] (by kernel_rfl) ⟨pu rfl rfl [(3, .bool b27550)] (fun ac hA => y_move hA rfl rfl) rfl rfl, pu rfl rfl [(43, .bool b27550)] (fun ac hA => y_move hA rfl rfl) rfl rfl, puOff rfl rfl rfl rfl [(0, .slice A0 n0 c0), (44, .bool b27550)] rfl hb27722 rfl, puOff rfl rfl rfl rfl [(4, .int .i64 x23102), (44, .bool b27550)] rfl hb27722 rfl, puOff rfl rfl rfl rfl [(44, .bool b27550), (45, undef), (46, undef)] rfl hb27722 rfl, puOff rfl rfl rfl rfl [(44, .bool b27550), (47, undef)] rfl hb27722 rfl, puOff rfl rfl rfl rfl [(5, .int .i64 x27551), (44, .bool b27550)] rfl hb27722 rfl, puOff rfl rfl rfl rfl [(44, .bool b27550), (48, undef), (49, undef)] rfl hb27722 rfl, puOff rfl rfl rfl rfl [(44, .bool b27550), (50, undef)] rfl hb27722 rfl, puOff rfl rfl rfl rfl [(0, .slice A0 n0 c0), (44, .bool b27550)] rfl hb27722 rfl, puOff rfl rfl rfl rfl [(4, .int .i64 x23102), (44, .bool b27550)] rfl hb27722 rfl, puOff rfl rfl rfl rfl [(44, .bool b27550), (52, undef), (53, undef)] rfl hb27722 rfl, puOff rfl rfl rfl rfl [(44, .bool b27550), (54, undef)] rfl hb27722 rfl, puOff rfl rfl rfl rfl [(5, .int .i64 x27551), (44, .bool b27550)] rfl hb27722 rfl, puOff rfl rfl rfl rfl [(44, .bool b27550), (56, undef)] rfl hb27722 rfl, puOff rfl rfl rfl rfl [(44, .bool b27550), (55, undef), (57, undef)] rfl hb27722 rfl, puOff rfl rfl rfl rfl [(44, .bool b27550), (58, undef)] rfl hb27722 rfl, trivial⟩ (by kernel_rfl) (by kernel_rfl) ⟨?_, trivial⟩
        refine efOff rfl rfl rfl [(44, .bool b27550), (51, undef), (59, undef)] rfl [(18, undef), (19, .bool false), (20, .bool false)] hb27722 rfl ?_ rfl
        refine dEnd [18, 19, 20] (by kernel_rfl) ⟨puOff rfl rfl rfl rfl [(44, .bool b27550), (60, undef)] rfl hb27722 rfl, pu rfl rfl [(44, .bool b27550), (61, undef)] (fun ac hA => y_pickf hb27722 hA rfl rfl rfl) rfl rfl, pu rfl rfl [(62, .bool false)] (fun ac hA => y_assign hA rfl rfl) rfl rfl, trivial⟩ ⟨by kernel_rfl, by kernel_rfl⟩ [(0, .slice A0 n0 c0), (3, .bool false), (4, .int .i64 x23102), (5, .int .i64 x27551)] rfl (fun ac hA => ?_)
        exact hb3 false hF ac w (hA.sub _ rfl) hS
      replace hF := iff' hb27658 hF
      refine wp_exit ?_
      cases hF
      exact hx27647_2 b27550 (T27647_ _ rfl) ac w (hA.sub _ rfl) hS
    replace hF := iff' hb25427 hF
    refine wp_exit ?_
    cases hF
    exact hx25423_0 b23101 (T25423_ _ rfl) ac w (hA.sub _ rfl) hS
  refine wp_reg ?_
  obtain ⟨y27741, h27742, hF⟩ := bnd hF
  refine x_call en10 hA (F_law09_awake (L := L) h27742 hS) (fun v ac w hR hA => ?_) rfl rfl rfl rfl rfl
  obtain ⟨Z27743, wz27744, rfl, h27745, hS⟩ := hR
  have h27746 := Imm.kind (d' := (kM Z27743 wz27744 k30)) (Imm.sub ha0 h27745) rfl (kM_sub h27745)
  refine x_val hA (r_not rfl (hA.ev rfl)) (fun ac hA => ?_) rfl rfl rfl
  refine x_move hA (fun ac hA => ?_) rfl rfl rfl rfl rfl
  refine bcase (b := !y27741) (fun hb27747 => ?_) fun hb27747 => ?_
  · replace hF := ift hb27747 hF
    refine x_off hb27747 hA (fun ac hA => ?_) rfl rfl rfl rfl rfl
    refine x_off hb27747 hA (fun ac hA => ?_) rfl rfl rfl rfl rfl
    refine x_off hb27747 hA (fun ac hA => ?_) rfl rfl rfl rfl rfl
    refine x_pickt hb27747 hA (fun ac hA => ?_) rfl rfl rfl rfl rfl rfl
    refine x_move hA (fun ac hA => ?_) rfl rfl rfl rfl rfl
    refine x_off rfl hA (fun ac hA => ?_) rfl rfl rfl rfl rfl
    refine x_off rfl hA (fun ac hA => ?_) rfl rfl rfl rfl rfl
    refine x_off rfl hA (fun ac hA => ?_) rfl rfl rfl rfl rfl
    refine x_pickt rfl hA (fun ac hA => ?_) rfl rfl rfl rfl rfl rfl
    refine x_move hA (fun ac hA => ?_) rfl rfl rfl rfl rfl
    refine x_off rfl hA (fun ac hA => ?_) rfl rfl rfl rfl rfl
    refine x_off rfl hA (fun ac hA => ?_) rfl rfl rfl rfl rfl
    refine x_off rfl hA (fun ac hA => ?_) rfl rfl rfl rfl rfl
    refine x_pickt rfl hA (fun ac hA => ?_) rfl rfl rfl rfl rfl rfl
    refine wpList_nil ?_
    exact hj1 true hF Z27743 wz27744 h27745 h27746 ac w (hA.sub _ rfl) hS
  replace hF := iff' hb27747 hF
  refine x_on hb27747 hA ?_ rfl rfl rfl
  refine x_move hA (fun ac hA => ?_) rfl rfl rfl rfl rfl
  refine x_on hb27747 hA ?_ rfl rfl rfl
  obtain ⟨y27748, h27749, hF⟩ := bnd hF
  refine x_call en11 hA (F_law09_few (L := zone Z27743 wz27744 :: L) a0 A0 n0 c0 h27749 0 rfl (h27746.rdl 0 rfl) hS) (fun v ac w hR hA => ?_) rfl rfl rfl rfl rfl
  obtain ⟨rfl, hS⟩ := hR
  refine x_on hb27747 hA ?_ rfl rfl rfl
  refine x_val hA (r_not rfl (hA.ev rfl)) (fun ac hA => ?_) rfl rfl rfl
  refine x_pickf hb27747 hA (fun ac hA => ?_) rfl rfl rfl rfl rfl rfl
  refine x_move hA (fun ac hA => ?_) rfl rfl rfl rfl rfl
  refine bcase (b := !y27748) (fun hb27750 => ?_) fun hb27750 => ?_
  · replace hF := ift hb27750 hF
    refine x_off hb27750 hA (fun ac hA => ?_) rfl rfl rfl rfl rfl
    refine x_off hb27750 hA (fun ac hA => ?_) rfl rfl rfl rfl rfl
    refine x_off hb27750 hA (fun ac hA => ?_) rfl rfl rfl rfl rfl
    refine x_pickt hb27750 hA (fun ac hA => ?_) rfl rfl rfl rfl rfl rfl
    refine x_move hA (fun ac hA => ?_) rfl rfl rfl rfl rfl
    refine x_off rfl hA (fun ac hA => ?_) rfl rfl rfl rfl rfl
    refine x_off rfl hA (fun ac hA => ?_) rfl rfl rfl rfl rfl
    refine x_off rfl hA (fun ac hA => ?_) rfl rfl rfl rfl rfl
    refine x_pickt rfl hA (fun ac hA => ?_) rfl rfl rfl rfl rfl rfl
    refine wpList_nil ?_
    exact hj1 true hF Z27743 wz27744 h27745 h27746 ac w (hA.sub _ rfl) hS
  replace hF := iff' hb27750 hF
  refine x_on hb27750 hA ?_ rfl rfl rfl
  refine x_move hA (fun ac hA => ?_) rfl rfl rfl rfl rfl
  refine x_on hb27750 hA ?_ rfl rfl rfl
  refine x_len Try.underlying22 (hS.imm 0 h27746 rfl).2.1 hA (fun ac hA => ?_) rfl rfl rfl rfl rfl
  refine x_on hb27750 hA ?_ rfl rfl rfl
  refine x_val hA (r_ltI rfl (hA.ev rfl) (hA.ev rfl)) (fun ac hA => ?_) rfl rfl rfl
  refine x_pickf hb27750 hA (fun ac hA => ?_) rfl rfl rfl rfl rfl rfl
  refine x_move hA (fun ac hA => ?_) rfl rfl rfl rfl rfl
  refine bcase (b := decide ((a0.length : Int) < 1)) (fun hb27751 => ?_) fun hb27751 => ?_
  · replace hF := ift hb27751 hF
    refine x_off hb27751 hA (fun ac hA => ?_) rfl rfl rfl rfl rfl
    refine x_off hb27751 hA (fun ac hA => ?_) rfl rfl rfl rfl rfl
    refine x_off hb27751 hA (fun ac hA => ?_) rfl rfl rfl rfl rfl
    refine x_pickt hb27751 hA (fun ac hA => ?_) rfl rfl rfl rfl rfl rfl
    refine wpList_nil ?_
    exact hj1 true hF Z27743 wz27744 h27745 h27746 ac w (hA.sub _ rfl) hS
  replace hF := iff' hb27751 hF
  refine x_on hb27751 hA ?_ rfl rfl rfl
  refine x_move hA (fun ac hA => ?_) rfl rfl rfl rfl rfl
  refine x_on hb27751 hA ?_ rfl rfl rfl
  refine x_len Try.underlying22 (hS.imm 0 h27746 rfl).2.1 hA (fun ac hA => ?_) rfl rfl rfl rfl rfl
  refine x_on hb27751 hA ?_ rfl rfl rfl
  refine x_val hA (r_gtI rfl (hA.ev rfl) (hA.ev rfl)) (fun ac hA => ?_) rfl rfl rfl
  refine x_pickf hb27751 hA (fun ac hA => ?_) rfl rfl rfl rfl rfl rfl
  refine wpList_nil ?_
  exact hj1 (decide (16 < (a0.length : Int))) hF Z27743 wz27744 h27745 h27746 ac w (hA.sub _ rfl) hS
end Go.Proofs.Ytpanacifejpjhaa.M
