/- The calls come to the plain functions. -/
import Derived.Test.YtgjhiojkkjaloaaMb
import Derived.Test.YtgjhiojkkjaloaaDd
namespace Go.Proofs.Ytgjhiojkkjaloaa.M
open Go Go.RowKit Go.Proofs.Ytgjhiojkkjaloaa.E
set_option linter.unusedVariables false
set_option linter.unusedSimpArgs false

set_option maxHeartbeats 4000000 in
theorem F_files_Store_Sync_1 {r : World} {L : List HP} {w : World} (a0 : Int) (a1 : S68) (g1 : Nat) (h1 : Nat) {y : (S68)} (hF : files_Store_Sync_1 a0 a1 = some y) (hS : SH r (blk g1 24 [.pointer (some ⟨h1, 0, none⟩)] :: obj68 h1 a1 :: L) w) :
    Ret Try.prog 43 #[.int .i64 a0, .pointer (some ⟨g1, 0, none⟩)] w fun v w' => v = .tuple #[] ∧ SH r (blk g1 24 [.pointer (some ⟨h1, 0, none⟩)] :: obj68 h1 y :: L) w' := by
  refine enter Try.func43 rfl Try.ntmps43 [(0, .int .i64 a0), (1, .pointer (some ⟨g1, 0, none⟩))] rfl (by simp) ?_
  intro ac hA Qf hQ hQn
  unfold files_Store_Sync_1 at hF
  replace hS := hS.pk 1
  obtain ⟨A101, n102, c103, hS⟩ := obj68_open hS
  refine wp_draw [0, 1, 3, 7, 0, 0, 32, 96, 224, 0, 992, 2016, 4064, 8160, 16383, 32767, 65535] [16] rfl hA hS (by kernel_rfl) (by kernel_rfl) (by kernel_rfl) (by kernel_rfl) fun w hS => ?_
  obtain ⟨x104, h105, hF⟩ := bnd hF
  have hS_106 := hS
  replace hS := hS.pk 1
  obtain ⟨ps107, A108, n109, c110, h111, h112, hS⟩ := own2_out hS h105
  obtain ⟨cs, hV, hc113⟩ := el (hS.rd 0 rfl) h112
  obtain rfl := hV
  refine ⟨[(0, .pointer (some ⟨h1, 0, none⟩)), (1, .pointer (some ⟨h1, 0, none⟩)), (2, .pointer (some ⟨h1, 0, none⟩)), (3, .slice A101 n102 c103), (4, .int .i64 a0), (5, .pointer (some ⟨h1, 0, none⟩)), (6, .pointer (some ⟨h1, 0, none⟩)), (7, .pointer (some ⟨h1, 0, none⟩)), (8, .slice A101 n102 c103), (9, .int .i64 a0), (10, .pointer (some (ea A101 (a0.toNat * 3)))), (11, .pointer (some (ea A101 (a0.toNat * 3 + 1)))), (12, .slice A108 n109 c110), (13, .int .i64 (x104.f1.length : Int)), (14, .pointer (some (ea A101 (a0.toNat * 3)))), (15, .pointer (some (ea A101 (a0.toNat * 3 + 2))))], ?_⟩
  refine dEff [0, 1, 2, 3, 4, 5, 6, 7, 8, 9, 10, 11, 12, 13, 14, 15] [16] (by kernel_rfl) ⟨pu rfl rfl [(1, .pointer (some ⟨g1, 0, none⟩))] (fun ac hA => y_ld Try.underlying24 (hS_106.cell 2 rfl 0 _ rfl) hA rfl rfl rfl) rfl rfl, pu rfl rfl [(3, .pointer (some ⟨h1, 0, none⟩))] (fun ac hA => r_nilCheck rfl (hA.ev rfl)) rfl rfl, pu rfl rfl [(4, .pointer (some ⟨h1, 0, none⟩))] (fun ac hA => y_fab fa68_0 hA rfl rfl) rfl rfl, pu rfl rfl [(5, .pointer (some ⟨h1, 0, none⟩))] (fun ac hA => y_ld Try.underlying66 (hS_106.cell 0 rfl 0 _ rfl) hA rfl rfl rfl) rfl rfl, pu rfl rfl [(0, .int .i64 a0)] (fun ac hA => y_move hA rfl rfl) rfl rfl, pu rfl rfl [(1, .pointer (some ⟨g1, 0, none⟩))] (fun ac hA => y_ld Try.underlying24 (hS_106.cell 2 rfl 0 _ rfl) hA rfl rfl rfl) rfl rfl, pu rfl rfl [(8, .pointer (some ⟨h1, 0, none⟩))] (fun ac hA => r_nilCheck rfl (hA.ev rfl)) rfl rfl, pu rfl rfl [(9, .pointer (some ⟨h1, 0, none⟩))] (fun ac hA => y_fab fa68_0 hA rfl rfl) rfl rfl, pu rfl rfl [(10, .pointer (some ⟨h1, 0, none⟩))] (fun ac hA => y_ld Try.underlying66 (hS_106.cell 0 rfl 0 _ rfl) hA rfl rfl rfl) rfl rfl, pu rfl rfl [(0, .int .i64 a0)] (fun ac hA => y_move hA rfl rfl) rfl rfl, pu rfl rfl [(11, .slice A101 n102 c103), (12, .int .i64 a0)] (fun ac hA => y_ia Try.underlying66 sz73 (hS_106.rd2L 1 rfl) h105 hA rfl rfl rfl) rfl rfl, pu rfl rfl [(13, .pointer (some (ea A101 (a0.toNat * 3))))] (fun ac hA => y_fae (m := a0.toNat * 3) fa73_1 hA rfl rfl) rfl rfl, pu rfl rfl [(14, .pointer (some (ea A101 (a0.toNat * 3 + 1))))] (fun ac hA => y_ld Try.underlying22 (hc113 1 _ rfl) hA rfl rfl rfl) rfl rfl, pu rfl rfl [(15, .slice A108 n109 c110)] (fun ac hA => y_len Try.underlying22 (hS.rd 1 rfl).2.1 hA rfl rfl) rfl rfl, pu rfl rfl [(6, .slice A101 n102 c103), (7, .int .i64 a0)] (fun ac hA => y_ia Try.underlying66 sz73 (hS.rdp 0 rfl h111) h105 hA rfl rfl rfl) rfl rfl, pu rfl rfl [(17, .pointer (some (ea A101 (a0.toNat * 3))))] (fun ac hA => y_fae (m := a0.toNat * 3) fa73_2 hA rfl rfl) rfl rfl, trivial⟩ (by kernel_rfl) (by kernel_rfl) ⟨ef rfl [(16, .int .i64 (x104.f1.length : Int)), (18, .pointer (some (ea A101 (a0.toNat * 3 + 2))))] (fun ac hA K hK => ?_) rfl rfl, trivial⟩
  refine z_sto (z' := ((⟨x104.f0, x104.f1, (x104.f1.length : Int)⟩ : S73), A108, n109, c110)) (off := 2) (vs := [.int .i64 (x104.f1.length : Int)]) 0 sz3 hA hS rfl (at_some h112).2.2 (fun c h => by cases h; rfl) (fun  w hS => ?_) rfl rfl rfl rfl rfl rfl
  replace hS := hS.pk 2
  replace hS := hS.pk 2
  replace hS := hS.pk 2
  replace hS := own2_in (g := (fun x : S73 => x.f1)) (x' := (⟨x104.f0, x104.f1, (x104.f1.length : Int)⟩ : S73)) h111 h112 hS
  refine hK _ [] _ rfl ?_
  refine dEnd [] (by kernel_rfl) trivial ⟨by kernel_rfl, by kernel_rfl⟩ [(1, .pointer (some ⟨g1, 0, none⟩))] rfl (fun ac hA => ?_)
  replace hS := hS.pk 1
  replace hS := obj68_mk (x := (⟨a1.f0.set a0.toNat (⟨x104.f0, x104.f1, (x104.f1.length : Int)⟩ : S73), a1.f1, a1.f2, a1.f3, a1.f4⟩ : S68)) hS
  replace hS := hS.pk 1
  cases hF
  refine hQn _ _ ?_
  refine lv0n Try.results43 hA ?_
  exact ⟨rfl, hS⟩

set_option maxHeartbeats 4000000 in
theorem F_files_Store_Delete_1 {r : World} {L : List HP} {w : World} (a0 : Int) (a1 : S68) (g1 : Nat) (h1 : Nat) {y : (S68)} (hF : files_Store_Delete_1 a0 a1 = some y) (hS : SH r (blk g1 24 [.pointer (some ⟨h1, 0, none⟩)] :: obj68 h1 a1 :: L) w) :
    Ret Try.prog 41 #[.int .i64 a0, .pointer (some ⟨g1, 0, none⟩)] w fun v w' => v = .tuple #[] ∧ SH r (blk g1 24 [.pointer (some ⟨h1, 0, none⟩)] :: obj68 h1 y :: L) w' := by
  refine enter Try.func41 rfl Try.ntmps41 [(0, .int .i64 a0), (1, .pointer (some ⟨g1, 0, none⟩))] rfl (by simp) ?_
  intro ac hA Qf hQ hQn
  unfold files_Store_Delete_1 at hF
  replace hS := hS.pk 1
  obtain ⟨A101, n102, c103, hS⟩ := obj68_open hS
  refine wp_draw [0, 0, 2, 6, 14, 0, 0, 64, 254, 511, 1023, 2047] [8, 11] rfl hA hS (by kernel_rfl) (by kernel_rfl) (by kernel_rfl) (by kernel_rfl) fun w hS => ?_
  obtain ⟨x104, h105, hF⟩ := ltt_ hF
  refine ⟨[(0, .pointer (some ⟨h1, 0, none⟩)), (1, .pointer (some ⟨h1, 0, none⟩)), (2, .pointer (some ⟨h1, 0, none⟩)), (3, .pointer (some ⟨h1, 0, none⟩)), (4, .slice A101 n102 c103), (5, .int .i64 a0), (6, .int .i64 a0), (7, .int .i64 x104)], ?_⟩
  refine dEff [0, 1, 2, 3, 4, 5, 6, 7] [8] (by kernel_rfl) ⟨pu rfl rfl [(1, .pointer (some ⟨g1, 0, none⟩))] (fun ac hA => y_ld Try.underlying24 (hS.cell 2 rfl 0 _ rfl) hA rfl rfl rfl) rfl rfl, pu rfl rfl [(1, .pointer (some ⟨g1, 0, none⟩))] (fun ac hA => y_ld Try.underlying24 (hS.cell 2 rfl 0 _ rfl) hA rfl rfl rfl) rfl rfl, pu rfl rfl [(4, .pointer (some ⟨h1, 0, none⟩))] (fun ac hA => r_nilCheck rfl (hA.ev rfl)) rfl rfl, pu rfl rfl [(5, .pointer (some ⟨h1, 0, none⟩))] (fun ac hA => y_fab fa68_0 hA rfl rfl) rfl rfl, pu rfl rfl [(6, .pointer (some ⟨h1, 0, none⟩))] (fun ac hA => y_ld Try.underlying66 (hS.cell 0 rfl 0 _ rfl) hA rfl rfl rfl) rfl rfl, pu rfl rfl [(0, .int .i64 a0)] (fun ac hA => y_move hA rfl rfl) rfl rfl, pu rfl rfl [(0, .int .i64 a0)] (fun ac hA => y_move hA rfl rfl) rfl rfl, pu rfl rfl [(9, .int .i64 a0)] (fun ac hA => (rv_i h105 (r_add rfl (hA.ev rfl) (hA.ev rfl)) : RunV _ _ _ _ (.int .i64 x104))) rfl rfl, trivial⟩ (by kernel_rfl) (by kernel_rfl) ⟨ef rfl [(7, .slice A101 n102 c103), (8, .int .i64 a0), (10, .int .i64 x104)] (fun ac hA K hK => ?_) rfl rfl, trivial⟩
  replace hS := hS.pk 1
  obtain ⟨y106, h107, hF⟩ := bnd hF
  refine z_call en42 hA (F_del (L := blk h1 68 [.slice A101 n102 c103, .int .i64 a1.f1, .int .i64 a1.f2, .bool a1.f3, .int .i64 a1.f4] :: blk g1 24 [.pointer (some ⟨h1, 0, none⟩)] :: L) a1.f0 a0 x104 h107 hS) (fun v w hR => ?_) rfl rfl
  obtain ⟨A108, n109, c110, rfl, hS⟩ := hR
  refine hK _ [(9, .pointer (some ⟨h1, 0, none⟩)), (10, .pointer (some ⟨h1, 0, none⟩))] _ rfl ?_
  refine dEff [0, 9, 10] [11] (by kernel_rfl) ⟨pu rfl rfl [(1, .pointer (some ⟨g1, 0, none⟩))] (fun ac hA => y_ld Try.underlying24 (hS.cell 2 rfl 0 _ rfl) hA rfl rfl rfl) rfl rfl, pu rfl rfl [(3, .pointer (some ⟨h1, 0, none⟩))] (fun ac hA => r_nilCheck rfl (hA.ev rfl)) rfl rfl, pu rfl rfl [(12, .pointer (some ⟨h1, 0, none⟩))] (fun ac hA => y_fab fa68_0 hA rfl rfl) rfl rfl, trivial⟩ (by kernel_rfl) (by kernel_rfl) ⟨ef rfl [(11, .slice A108 n109 c110), (13, .pointer (some ⟨h1, 0, none⟩))] (fun ac hA K hK => ?_) rfl rfl, trivial⟩
  refine z_stb 1 sz66 hA hS rfl (fun  w hS => ?_) rfl rfl rfl rfl rfl rfl
  refine hK _ [] _ rfl ?_
  refine dEnd [] (by kernel_rfl) trivial ⟨by kernel_rfl, by kernel_rfl⟩ [(1, .pointer (some ⟨g1, 0, none⟩))] rfl (fun ac hA => ?_)
  replace hS := hS.pk 1
  replace hS := hS.pk 1
  replace hS := obj68_mk (x := (⟨y106, a1.f1, a1.f2, a1.f3, a1.f4⟩ : S68)) hS
  replace hS := hS.pk 1
  cases hF
  refine hQn _ _ ?_
  refine lv0n Try.results41 hA ?_
  exact ⟨rfl, hS⟩

set_option maxHeartbeats 4000000 in
theorem F_files_Store_Rename_1 {r : World} {L : List HP} {w : World} (a0 : Int) (a1 : S68) (a2 : (List UInt8)) (g1 : Nat) (h1 : Nat) (g2 : Nat) {y : (S68 × (List UInt8))} (hF : files_Store_Rename_1 a0 a1 a2 = some y) (hS : SH r (blk g1 24 [.pointer (some ⟨h1, 0, none⟩)] :: obj68 h1 a1 :: obj9 g2 a2 :: L) w) :
    Ret Try.prog 44 #[.int .i64 a0, .pointer (some ⟨g1, 0, none⟩), .pointer (some ⟨g2, 0, none⟩)] w fun v w' => v = .tuple #[] ∧ SH r (blk g1 24 [.pointer (some ⟨h1, 0, none⟩)] :: obj68 h1 y.1 :: obj9 g2 y.2 :: L) w' := by
  refine enter Try.func44 rfl Try.ntmps44 [(0, .int .i64 a0), (1, .pointer (some ⟨g1, 0, none⟩)), (2, .pointer (some ⟨g2, 0, none⟩))] rfl (by simp) ?_
  intro ac hA Qf hQ hQn
  unfold files_Store_Rename_1 at hF
  replace hS := hS.pk 1
  obtain ⟨A101, n102, c103, hS⟩ := obj68_open hS
  replace hS := hS.pk 3
  replace hS := obj9_open hS
  refine wp_seq_k fun K104 hK104 => ?_
  refine wp_reg ?_
  refine x_ld Try.underlying24 (hS.cell 3 rfl 0 _ rfl) hA (fun ac hA => ?_) rfl rfl rfl rfl rfl rfl
  refine x_val hA (r_nilCheck rfl (hA.ev rfl)) (fun ac hA => ?_) rfl rfl rfl
  refine x_fab fa68_0 hA (fun ac hA => ?_) rfl rfl rfl rfl rfl
  refine x_ld Try.underlying66 (hS.cell 1 rfl 0 _ rfl) hA (fun ac hA => ?_) rfl rfl rfl rfl rfl rfl
  refine x_move hA (fun ac hA => ?_) rfl rfl rfl rfl rfl
  obtain ⟨x105, h106, hF⟩ := bnd hF
  refine x_ia Try.underlying66 sz73 (hS.rd2L 2 rfl) h106 hA (fun ac hA => ?_) rfl rfl rfl rfl rfl rfl
  replace hS := hS.pk 2
  obtain ⟨ps107, A108, n109, c110, h111, h112, hS⟩ := own2_out hS h106
  obtain ⟨cs, hV, hc113⟩ := el (hS.rd 0 rfl) h112
  obtain rfl := hV
  refine x_lda (cs := [str x105.f0, .slice A108 n109 c110, .int .i64 x105.f2]) Try.underlying73 sz73 (fun j u h => by rw [ea_add]; exact hc113 _ _ h) hA (fun ac hA => ?_) rfl rfl rfl rfl rfl rfl
  refine x_alloc (cs := [str [], .slice none 0 0, .int .i64 0]) zr73 hA hS (fun g114 ac w hS hA => ?_) rfl rfl rfl rfl rfl
  refine x_stb 0 sz73 hA hS rfl (fun  ac w hS hA => ?_) rfl rfl rfl rfl rfl rfl rfl rfl
  refine wpList_nil ?_
  refine hK104 _ _ ?_
  refine wp_seq_k fun K115 hK115 => ?_
  refine wp_draw [0, 0, 2, 6, 14, 0, 0, 64, 254, 511, 1023, 2047] [8, 11] rfl hA hS (by kernel_rfl) (by kernel_rfl) (by kernel_rfl) (by kernel_rfl) fun w hS => ?_
  obtain ⟨x116, h117, hF⟩ := ltt_ hF
  refine ⟨[(0, .pointer (some ⟨h1, 0, none⟩)), (1, .pointer (some ⟨h1, 0, none⟩)), (2, .pointer (some ⟨h1, 0, none⟩)), (3, .pointer (some ⟨h1, 0, none⟩)), (4, .slice A101 n102 c103), (5, .int .i64 a0), (6, .int .i64 a0), (7, .int .i64 x116)], ?_⟩
  refine dEff [0, 1, 2, 3, 4, 5, 6, 7] [8] (by kernel_rfl) ⟨pu rfl rfl [(1, .pointer (some ⟨g1, 0, none⟩))] (fun ac hA => y_ld Try.underlying24 (hS.cell 6 rfl 0 _ rfl) hA rfl rfl rfl) rfl rfl, pu rfl rfl [(1, .pointer (some ⟨g1, 0, none⟩))] (fun ac hA => y_ld Try.underlying24 (hS.cell 6 rfl 0 _ rfl) hA rfl rfl rfl) rfl rfl, pu rfl rfl [(15, .pointer (some ⟨h1, 0, none⟩))] (fun ac hA => r_nilCheck rfl (hA.ev rfl)) rfl rfl, pu rfl rfl [(16, .pointer (some ⟨h1, 0, none⟩))] (fun ac hA => y_fab fa68_0 hA rfl rfl) rfl rfl, pu rfl rfl [(17, .pointer (some ⟨h1, 0, none⟩))] (fun ac hA => y_ld Try.underlying66 (hS.cell 5 rfl 0 _ rfl) hA rfl rfl rfl) rfl rfl, pu rfl rfl [(0, .int .i64 a0)] (fun ac hA => y_move hA rfl rfl) rfl rfl, pu rfl rfl [(0, .int .i64 a0)] (fun ac hA => y_move hA rfl rfl) rfl rfl, pu rfl rfl [(20, .int .i64 a0)] (fun ac hA => (rv_i h117 (r_add rfl (hA.ev rfl) (hA.ev rfl)) : RunV _ _ _ _ (.int .i64 x116))) rfl rfl, trivial⟩ (by kernel_rfl) (by kernel_rfl) ⟨ef rfl [(18, .slice A101 n102 c103), (19, .int .i64 a0), (21, .int .i64 x116)] (fun ac hA K hK => ?_) rfl rfl, trivial⟩
  replace hS := hS.pk 3
  replace hS := hS.pk 2
  obtain ⟨h118, hF⟩ := chk_some hF
  refine z_call en42 hA (F_delj (L := blk g114 73 [str x105.f0, .slice A108 n109 c110, .int .i64 x105.f2] :: own (kI .u8) 5 A108 n109 c110 x105.f1 :: blk g2 9 [str a2] :: blk h1 68 [.slice A101 n102 c103, .int .i64 a1.f1, .int .i64 a1.f2, .bool a1.f3, .int .i64 a1.f4] :: blk g1 24 [.pointer (some ⟨h1, 0, none⟩)] :: L) h118 h111 h112 hS) (fun v w hR => ?_) rfl rfl
  obtain ⟨A119, n120, c121, rfl, hS⟩ := hR
  refine hK _ [(9, .pointer (some ⟨h1, 0, none⟩)), (10, .pointer (some ⟨h1, 0, none⟩))] _ rfl ?_
  refine dEff [0, 9, 10] [11] (by kernel_rfl) ⟨pu rfl rfl [(1, .pointer (some ⟨g1, 0, none⟩))] (fun ac hA => y_ld Try.underlying24 (hS.cell 5 rfl 0 _ rfl) hA rfl rfl rfl) rfl rfl, pu rfl rfl [(14, .pointer (some ⟨h1, 0, none⟩))] (fun ac hA => r_nilCheck rfl (hA.ev rfl)) rfl rfl, pu rfl rfl [(23, .pointer (some ⟨h1, 0, none⟩))] (fun ac hA => y_fab fa68_0 hA rfl rfl) rfl rfl, trivial⟩ (by kernel_rfl) (by kernel_rfl) ⟨ef rfl [(22, .slice A119 n120 c121), (24, .pointer (some ⟨h1, 0, none⟩))] (fun ac hA K hK => ?_) rfl rfl, trivial⟩
  refine z_stb 4 sz66 hA hS rfl (fun  w hS => ?_) rfl rfl rfl rfl rfl rfl
  refine hK _ [] _ rfl ?_
  refine dEnd [] (by kernel_rfl) trivial ⟨by kernel_rfl, by kernel_rfl⟩ [(1, .pointer (some ⟨g1, 0, none⟩)), (2, .pointer (some ⟨g2, 0, none⟩)), (4, .pointer (some ⟨g114, 0, none⟩))] rfl (fun ac hA => ?_)
  refine hK115 _ _ ?_
  refine wp_seq_k fun K122 hK122 => ?_
  refine wp_reg ?_
  refine x_ld Try.underlying9 (hS.cell 4 rfl 0 _ rfl) hA (fun ac hA => ?_) rfl rfl rfl rfl rfl rfl
  refine x_fab fa73_0 hA (fun ac hA => ?_) rfl rfl rfl rfl rfl
  refine x_stb 2 sz9 hA hS rfl (fun  ac w hS hA => ?_) rfl rfl rfl rfl rfl rfl rfl rfl
  refine wpList_nil ?_
  refine hK122 _ _ ?_
  refine wp_seq_k fun K123 hK123 => ?_
  refine wp_reg ?_
  refine x_ld Try.underlying24 (hS.cell 5 rfl 0 _ rfl) hA (fun ac hA => ?_) rfl rfl rfl rfl rfl rfl
  refine x_ld Try.underlying9 (hS.cell 4 rfl 0 _ rfl) hA (fun ac hA => ?_) rfl rfl rfl rfl rfl rfl
  replace hS := hS.pk 2
  replace hS := hS.pk 2
  obtain ⟨y124, h125, hF⟩ := bnd hF
  refine x_call en36 hA (F_files_Store_find (L := blk g114 73 [str a2, .slice A108 n109 c110, .int .i64 x105.f2] :: own (kI .u8) 5 A108 n109 c110 x105.f1 :: blk g2 9 [str a2] :: blk g1 24 [.pointer (some ⟨h1, 0, none⟩)] :: L) (⟨a1.f0.eraseIdx a0.toNat, a1.f1, a1.f2, a1.f3, a1.f4⟩ : S68) a2 h1 A119 n120 c121 h125 hS) (fun v ac w hR hA => ?_) rfl rfl rfl rfl rfl
  obtain ⟨rfl, hS⟩ := hR
  refine x_move hA (fun ac hA => ?_) rfl rfl rfl rfl rfl
  refine x_val hA (r_extract rfl (hA.ev rfl) rfl) (fun ac hA => ?_) rfl rfl rfl
  refine x_val hA (r_extract rfl (hA.ev rfl) rfl) (fun ac hA => ?_) rfl rfl rfl
  refine x_assign hA (fun ac hA => ?_) rfl rfl rfl rfl rfl
  refine x_assign hA (fun ac hA => ?_) rfl rfl rfl rfl rfl
  refine wpList_nil ?_
  refine hK123 _ _ ?_
  refine wp_seq_k fun K126 hK126 => ?_
  refine wp_reg ?_
  refine x_move hA (fun ac hA => ?_) rfl rfl rfl rfl rfl
  refine wpList_nil ?_
  refine hK126 _ _ ?_
  refine c_if hA rfl (fun hb127 => ?_) fun hb127 => ?_
  · replace hF := ift hb127 hF
    refine wp_draw [0, 1, 3, 7, 0, 0, 63, 127] [7] rfl hA hS (by kernel_rfl) (by kernel_rfl) (by kernel_rfl) (by kernel_rfl) fun w hS => ?_
    obtain ⟨x128, h129, hF⟩ := bnd hF
    refine ⟨[(0, .pointer (some ⟨h1, 0, none⟩)), (1, .pointer (some ⟨h1, 0, none⟩)), (2, .pointer (some ⟨h1, 0, none⟩)), (3, .slice A119 n120 c121), (4, .int .i64 y124.1), (5, .agg #[str a2, .slice A108 n109 c110, .int .i64 x105.f2]), (6, .pointer (some (ea A119 (y124.1.toNat * 3))))], ?_⟩
    refine dEff [0, 1, 2, 3, 4, 5, 6] [7] (by kernel_rfl) ⟨pu rfl rfl [(1, .pointer (some ⟨g1, 0, none⟩))] (fun ac hA => y_ld Try.underlying24 (hS.cell 5 rfl 0 _ rfl) hA rfl rfl rfl) rfl rfl, pu rfl rfl [(34, .pointer (some ⟨h1, 0, none⟩))] (fun ac hA => r_nilCheck rfl (hA.ev rfl)) rfl rfl, pu rfl rfl [(35, .pointer (some ⟨h1, 0, none⟩))] (fun ac hA => y_fab fa68_0 hA rfl rfl) rfl rfl, pu rfl rfl [(36, .pointer (some ⟨h1, 0, none⟩))] (fun ac hA => y_ld Try.underlying66 (hS.cell 0 rfl 0 _ rfl) hA rfl rfl rfl) rfl rfl, pu rfl rfl [(5, .int .i64 y124.1)] (fun ac hA => y_move hA rfl rfl) rfl rfl, pu rfl rfl [(4, .pointer (some ⟨g114, 0, none⟩))] (fun ac hA => y_lda (ad := ⟨g114, 0, none⟩) (cs := [str a2, .slice A108 n109 c110, .int .i64 x105.f2]) Try.underlying73 sz73 (fun j u h => by rw [add_mk, Nat.zero_add]; exact hS.cell 2 rfl j u h) hA rfl rfl rfl) rfl rfl, pu rfl rfl [(37, .slice A119 n120 c121), (38, .int .i64 y124.1)] (fun ac hA => y_ia Try.underlying66 sz73 (hS.rd2L 1 rfl) h129 hA rfl rfl rfl) rfl rfl, trivial⟩ (by kernel_rfl) (by kernel_rfl) ⟨ef rfl [(39, .agg #[str a2, .slice A108 n109 c110, .int .i64 x105.f2]), (40, .pointer (some (ea A119 (y124.1.toNat * 3))))] (fun ac hA K hK => ?_) rfl rfl, trivial⟩
    have hS_130 := hS
    replace hS := hS.pk 1
    obtain ⟨ps131, A132, n133, c134, h135, h136, hS⟩ := own2_out hS h129
    refine z_sto (z' := ((⟨a2, x105.f1, x105.f2⟩ : S73), A108, n109, c110)) (off := 0) (vs := [str a2, .slice A108 n109 c110, .int .i64 x105.f2]) 0 sz73 hA hS rfl (at_some h136).2.2 (fun c h => by cases h; rfl) (fun  w hS => ?_) rfl rfl rfl rfl rfl rfl
    replace hS := hS.pk 2
    replace hS := hS.pk 5
    replace hS := hS.pk 2
    replace hS := own2_in (g := (fun x : S73 => x.f1)) (x' := (⟨a2, x105.f1, x105.f2⟩ : S73)) h135 h136 hS
    refine hK _ [] _ rfl ?_
    refine dEnd [] (by kernel_rfl) trivial ⟨by kernel_rfl, by kernel_rfl⟩ [(1, .pointer (some ⟨g1, 0, none⟩)), (2, .pointer (some ⟨g2, 0, none⟩))] rfl (fun ac hA => ?_)
    replace hS := hS.pk 2
    replace hS := obj68_mk (x := (⟨(a1.f0.eraseIdx a0.toNat).set y124.1.toNat (⟨a2, x105.f1, x105.f2⟩ : S73), a1.f1, a1.f2, a1.f3, a1.f4⟩ : S68)) hS
    replace hS := hS.pk 3
    replace hS := obj9_mk (x := a2) hS
    replace hS := hS.drop 2
    replace hS := hS.drop 2
    replace hS := hS.pk 1
    replace hS := hS.pk 2
    cases hF
    refine hQn _ _ ?_
    refine lv0n Try.results44 hA ?_
    exact ⟨rfl, hS⟩
  replace hF := iff' hb127 hF
  refine wp_draw [0, 0, 2, 6, 14, 0, 0, 64, 254, 511, 1023, 2047] [7, 8, 11] rfl hA hS (by kernel_rfl) (by kernel_rfl) (by kernel_rfl) (by kernel_rfl) fun w hS => ?_
  refine ⟨[(0, .pointer (some ⟨h1, 0, none⟩)), (1, .pointer (some ⟨h1, 0, none⟩)), (2, .pointer (some ⟨h1, 0, none⟩)), (3, .pointer (some ⟨h1, 0, none⟩)), (4, .slice A119 n120 c121), (5, .int .i64 y124.1), (6, .agg #[str a2, .slice A108 n109 c110, .int .i64 x105.f2])], ?_⟩
  refine dEff [0, 1, 2, 3, 4, 5, 6] [7] (by kernel_rfl) ⟨pu rfl rfl [(1, .pointer (some ⟨g1, 0, none⟩))] (fun ac hA => y_ld Try.underlying24 (hS.cell 5 rfl 0 _ rfl) hA rfl rfl rfl) rfl rfl, pu rfl rfl [(1, .pointer (some ⟨g1, 0, none⟩))] (fun ac hA => y_ld Try.underlying24 (hS.cell 5 rfl 0 _ rfl) hA rfl rfl rfl) rfl rfl, pu rfl rfl [(42, .pointer (some ⟨h1, 0, none⟩))] (fun ac hA => r_nilCheck rfl (hA.ev rfl)) rfl rfl, pu rfl rfl [(43, .pointer (some ⟨h1, 0, none⟩))] (fun ac hA => y_fab fa68_0 hA rfl rfl) rfl rfl, pu rfl rfl [(44, .pointer (some ⟨h1, 0, none⟩))] (fun ac hA => y_ld Try.underlying66 (hS.cell 0 rfl 0 _ rfl) hA rfl rfl rfl) rfl rfl, pu rfl rfl [(5, .int .i64 y124.1)] (fun ac hA => y_move hA rfl rfl) rfl rfl, pu rfl rfl [(4, .pointer (some ⟨g114, 0, none⟩))] (fun ac hA => y_lda (ad := ⟨g114, 0, none⟩) (cs := [str a2, .slice A108 n109 c110, .int .i64 x105.f2]) Try.underlying73 sz73 (fun j u h => by rw [add_mk, Nat.zero_add]; exact hS.cell 2 rfl j u h) hA rfl rfl rfl) rfl rfl, trivial⟩ (by kernel_rfl) (by kernel_rfl) ⟨ef rfl [(47, .agg #[str a2, .slice A108 n109 c110, .int .i64 x105.f2])] (fun ac hA K hK => ?_) rfl rfl, trivial⟩
  replace hS := hS.pk 3
  refine z_bsl (d := kp73) (e := 73) (ps := #[(0, .agg #[str a2, .slice A108 n109 c110, .int .i64 x105.f2])]) (cells := [str a2, .slice A108 n109 c110, .int .i64 x105.f2]) (xs := [((⟨a2, x105.f1, x105.f2⟩ : S73), A108, n109, c110)]) (fun w => by kernel_rfl) rfl ⟨[str a2, .slice A108 n109 c110, .int .i64 x105.f2], _, rfl, rfl, rfl⟩ hA hS (fun g137 w hS => ?_) rfl rfl rfl
  replace hS := own2_one (g := (fun x : S73 => x.f1)) (x := (⟨a2, x105.f1, x105.f2⟩ : S73)) hS
  refine hK _ [] _ rfl ?_
  refine dEff [0, 1, 2, 3, 4, 5] [8] (by kernel_rfl) ⟨pu rfl rfl [(1, .pointer (some ⟨g1, 0, none⟩))] (fun ac hA => y_ld Try.underlying24 (hS.cell 5 rfl 0 _ rfl) hA rfl rfl rfl) rfl rfl, pu rfl rfl [(1, .pointer (some ⟨g1, 0, none⟩))] (fun ac hA => y_ld Try.underlying24 (hS.cell 5 rfl 0 _ rfl) hA rfl rfl rfl) rfl rfl, pu rfl rfl [(42, .pointer (some ⟨h1, 0, none⟩))] (fun ac hA => r_nilCheck rfl (hA.ev rfl)) rfl rfl, pu rfl rfl [(43, .pointer (some ⟨h1, 0, none⟩))] (fun ac hA => y_fab fa68_0 hA rfl rfl) rfl rfl, pu rfl rfl [(44, .pointer (some ⟨h1, 0, none⟩))] (fun ac hA => y_ld Try.underlying66 (hS.cell 1 rfl 0 _ rfl) hA rfl rfl rfl) rfl rfl, pu rfl rfl [(5, .int .i64 y124.1)] (fun ac hA => y_move hA rfl rfl) rfl rfl, trivial⟩ (by kernel_rfl) (by kernel_rfl) ⟨ef rfl [(45, .slice A119 n120 c121), (46, .int .i64 y124.1), (48, .slice (some ⟨g137, 0, none⟩) 1 1)] (fun ac hA K hK => ?_) rfl rfl, trivial⟩
  replace hS := hS.pk 2
  obtain ⟨y138, h139, hF⟩ := bnd hF
  refine z_call en38 hA (F_ins (L := blk h1 68 [.slice A119 n120 c121, .int .i64 a1.f1, .int .i64 a1.f2, .bool a1.f3, .int .i64 a1.f4] :: blk g114 73 [str a2, .slice A108 n109 c110, .int .i64 x105.f2] :: blk g2 9 [str a2] :: blk g1 24 [.pointer (some ⟨h1, 0, none⟩)] :: L) (a1.f0.eraseIdx a0.toNat) y124.1 [(⟨a2, x105.f1, x105.f2⟩ : S73)] h139 hS) (fun v w hR => ?_) rfl rfl
  obtain ⟨A140, n141, c142, rfl, hS⟩ := hR
  refine hK _ [(9, .pointer (some ⟨h1, 0, none⟩)), (10, .pointer (some ⟨h1, 0, none⟩))] _ rfl ?_
  refine dEff [0, 9, 10] [11] (by kernel_rfl) ⟨pu rfl rfl [(1, .pointer (some ⟨g1, 0, none⟩))] (fun ac hA => y_ld Try.underlying24 (hS.cell 4 rfl 0 _ rfl) hA rfl rfl rfl) rfl rfl, pu rfl rfl [(41, .pointer (some ⟨h1, 0, none⟩))] (fun ac hA => r_nilCheck rfl (hA.ev rfl)) rfl rfl, pu rfl rfl [(50, .pointer (some ⟨h1, 0, none⟩))] (fun ac hA => y_fab fa68_0 hA rfl rfl) rfl rfl, trivial⟩ (by kernel_rfl) (by kernel_rfl) ⟨ef rfl [(49, .slice A140 n141 c142), (51, .pointer (some ⟨h1, 0, none⟩))] (fun ac hA K hK => ?_) rfl rfl, trivial⟩
  refine z_stb 1 sz66 hA hS rfl (fun  w hS => ?_) rfl rfl rfl rfl rfl rfl
  refine hK _ [] _ rfl ?_
  refine dEnd [] (by kernel_rfl) trivial ⟨by kernel_rfl, by kernel_rfl⟩ [(1, .pointer (some ⟨g1, 0, none⟩)), (2, .pointer (some ⟨g2, 0, none⟩))] rfl (fun ac hA => ?_)
  replace hS := hS.pk 1
  replace hS := hS.pk 1
  replace hS := obj68_mk (x := (⟨y138, a1.f1, a1.f2, a1.f3, a1.f4⟩ : S68)) hS
  replace hS := hS.pk 2
  replace hS := obj9_mk (x := a2) hS
  replace hS := hS.drop 2
  replace hS := hS.pk 1
  replace hS := hS.pk 2
  cases hF
  refine hQn _ _ ?_
  refine lv0n Try.results44 hA ?_
  exact ⟨rfl, hS⟩

set_option maxHeartbeats 4000000 in
theorem F_files_Store_Restart {r : World} {L : List HP} {w : World} (a0 : (Option S68)) (a1 : (List Int)) (p0 : Option Addr) (A1 : Option Addr) (n1 : Nat) (c1 : Nat) {y : (Int × (Option S68))} (hF : files_Store_Restart a0 a1 = some y) (ha1 : RdL L (kI .i64) A1 n1 c1 a1) (hS : SH r (optP (obj68) p0 a0 :: L) w) :
    Ret Try.prog 19 #[.pointer p0, .slice A1 n1 c1] w fun v w' => v = .int .i64 y.1 ∧ SH r (optP (obj68) p0 y.2 :: L) w' := by
  refine enter Try.func19 rfl Try.ntmps19 [(0, .pointer p0), (1, .slice A1 n1 c1)] rfl (by simp) ?_
  intro ac hA Qf hQ hQn
  unfold files_Store_Restart at hF
  cases a0 with
  | none =>
    have hU := SH.unoptN hS
    clear hS
    obtain ⟨rfl, hS⟩ := hU
    refine wp_seq_k fun K103 hK103 => ?_
    refine wp_reg ?_
    refine x_assign hA (fun ac hA => ?_) rfl rfl rfl rfl rfl
    refine wpList_nil ?_
    refine hK103 _ _ ?_
    refine wp_seq_k fun K104 hK104 => ?_
    refine wp_seq_k fun K105 hK105 => ?_
    refine wp_reg ?_
    refine x_move hA (fun ac hA => ?_) rfl rfl rfl rfl rfl
    refine x_val (v := .bool true) hA (r_eqNilP (p := none) Try.underlying24 rfl (hA.ev rfl) (hA.ev rfl)) (fun ac hA => ?_) rfl rfl rfl
    refine wpList_nil ?_
    refine hK105 _ _ ?_
    refine c_t (b := true) rfl hA ?_ rfl
    refine wp_seq_k fun K106 hK106 => ?_
    refine wp_reg ?_
    refine x_assign hA (fun ac hA => ?_) rfl rfl rfl rfl rfl
    refine wpList_nil ?_
    refine hK106 _ _ ?_
    refine wp_ret ?_
    replace hS := SH.optN (obj68) hS
    cases hF
    refine hQ _ _ ?_
    refine lv Try.results19 hA rfl ?_
    exact ⟨rfl, hS⟩
  | some x101 =>
    have hU := SH.unoptS hS
    clear hS
    obtain ⟨g102, rfl, hS⟩ := hU
    obtain ⟨A107, n108, c109, hS⟩ := obj68_open hS
    refine wp_seq_k fun K110 hK110 => ?_
    refine wp_reg ?_
    refine x_assign hA (fun ac hA => ?_) rfl rfl rfl rfl rfl
    refine wpList_nil ?_
    refine hK110 _ _ ?_
    refine wp_seq_k fun K111 hK111 => ?_
    refine wp_seq_k fun K112 hK112 => ?_
    refine wp_reg ?_
    refine x_move hA (fun ac hA => ?_) rfl rfl rfl rfl rfl
    refine x_val (v := .bool false) hA (r_eqNilP (p := some ⟨g102, 0, none⟩) Try.underlying24 rfl (hA.ev rfl) (hA.ev rfl)) (fun ac hA => ?_) rfl rfl rfl
    refine wpList_nil ?_
    refine hK112 _ _ ?_
    refine c_f (b := false) rfl hA ?_ rfl
    refine wp_skip ?_
    refine hK111 _ _ ?_
    refine wp_seq_k fun K113 hK113 => ?_
    refine wp_seq_k fun K980 hK980 => ?_
    refine wp_reg ?_
    refine x_move hA (fun ac hA => ?_) rfl rfl rfl rfl rfl
    refine x_val hA (r_nilCheck rfl (hA.ev rfl)) (fun ac hA => ?_) rfl rfl rfl
    refine x_fab fa68_0 hA (fun ac hA => ?_) rfl rfl rfl rfl rfl
    refine x_ld Try.underlying66 (hS.cell 0 rfl 0 _ rfl) hA (fun ac hA => ?_) rfl rfl rfl rfl rfl rfl
    refine x_len Try.underlying66 (hS.rd2L 1 rfl).2.1 hA (fun ac hA => ?_) rfl rfl rfl rfl rfl
    refine x_move hA (fun ac hA => ?_) rfl rfl rfl rfl rfl
    refine wpList_nil ?_
    refine hK980 _ _ ?_
    refine wp_block_k fun Kx981 hKx981 => ?_
    have hb1 : ∀ (l1413 : (List S73)), files_Store_Restart_b1 x101 l1413 = some y → ∀ (ac : Act) (w : World), FR 78 [] ac [(0, .pointer (some ⟨g102, 0, none⟩))] → SH r (blk g102 68 [.slice A107 n108 c109, .int .i64 x101.f1, .int .i64 x101.f2, .bool x101.f3, .int .i64 x101.f4] :: own2 kp73 (kI .u8) 5 (fun x : S73 => x.f1) 73 A107 n108 c109 l1413 :: L) w → Kx981 ac w := by
      intro l1413 hF ac w hA hS
      unfold files_Store_Restart_b1 at hF
      refine hKx981 _ _ ?_
      refine hK113 _ _ ?_
      refine wp_seq_k fun K1414 hK1414 => ?_
      refine wp_reg ?_
      refine x_move hA (fun ac hA => ?_) rfl rfl rfl rfl rfl
      refine x_move hA (fun ac hA => ?_) rfl rfl rfl rfl rfl
      refine x_val hA (r_nilCheck rfl (hA.ev rfl)) (fun ac hA => ?_) rfl rfl rfl
      refine x_fab fa68_3 hA (fun ac hA => ?_) rfl rfl rfl rfl rfl
      refine x_stb 0 sz4 hA hS rfl (fun  ac w hS hA => ?_) rfl rfl rfl rfl rfl rfl rfl rfl
      refine x_val hA (r_nilCheck rfl (hA.ev rfl)) (fun ac hA => ?_) rfl rfl rfl
      refine x_fab fa68_2 hA (fun ac hA => ?_) rfl rfl rfl rfl rfl
      refine x_stb 0 sz3 hA hS rfl (fun  ac w hS hA => ?_) rfl rfl rfl rfl rfl rfl rfl rfl
      refine wpList_nil ?_
      refine hK1414 _ _ ?_
      refine wp_seq_k fun K1415 hK1415 => ?_
      refine wp_reg ?_
      refine x_assign hA (fun ac hA => ?_) rfl rfl rfl rfl rfl
      refine wpList_nil ?_
      refine hK1415 _ _ ?_
      refine wp_ret ?_
      replace hS := hS.pk 1
      replace hS := hS.pk 1
      replace hS := obj68_mk (x := (⟨l1413, x101.f1, 0, false, x101.f4⟩ : S68)) hS
      replace hS := SH.optS hS
      cases hF
      refine hQ _ _ ?_
      refine lv Try.results19 hA rfl ?_
      exact ⟨rfl, hS⟩
    obtain ⟨t1704, hl1704, hF⟩ := bnd hF
    have hx1704_0 : ∀ (l1704 : (List S73)), (l1704) = t1704 → ∀ (ac : Act) (w : World), FR 78 [] ac [(0, .pointer (some ⟨g102, 0, none⟩))] → SH r (blk g102 68 [.slice A107 n108 c109, .int .i64 x101.f1, .int .i64 x101.f2, .bool x101.f3, .int .i64 x101.f4] :: own2 kp73 (kI .u8) 5 (fun x : S73 => x.f1) 73 A107 n108 c109 l1704 :: L) w → Kx981 ac w := by
      intro l1704 ht ac w hA hS
      subst ht
      replace hF : files_Store_Restart_x1_0 x101 l1704 = some y := hF
      unfold files_Store_Restart_x1_0 at hF
      exact hb1 l1704 hF ac w (hA.sub _ rfl) hS
    refine wp_loop_fn hl1704 (fun s ac w => FR 78 [] ac [(0, .pointer (some ⟨g102, 0, none⟩)), (1, .slice A1 n1 c1), (14, .int .i64 (x101.f0.length : Int)), (15, .int .i64 s.2)] ∧ SH r (blk g102 68 [.slice A107 n108 c109, .int .i64 x101.f1, .int .i64 x101.f2, .bool x101.f3, .int .i64 x101.f4] :: own2 kp73 (kI .u8) 5 (fun x : S73 => x.f1) 73 A107 n108 c109 s.1 :: L) w) ⟨hA.sub _ rfl, hS⟩ ?_
    intro N1704 s1704 o1704 hF N1704_ T1704_ ac w hLab
    obtain ⟨l1559, x1560⟩ := s1704
    replace hF : files_Store_Restart_l1 a1 x101 l1559 x1560 = some o1704 := hF
    unfold files_Store_Restart_l1 at hF
    try dsimp only at hLab
    obtain ⟨hA, hS⟩ := hLab
    refine wp_seq_k fun K1706 hK1706 => ?_
    refine wp_reg ?_
    refine x_val hA (r_ltI rfl (hA.ev rfl) (hA.ev rfl)) (fun ac hA => ?_) rfl rfl rfl
    refine wpList_nil ?_
    refine hK1706 _ _ ?_
    refine wp_seq_k fun K1707 hK1707 => ?_
    refine c_if hA rfl (fun hb1708 => ?_) fun hb1708 => ?_
    · replace hF := ift hb1708 hF
      refine wp_skip ?_
      refine hK1707 _ _ ?_
      refine wp_seq_k fun K1709 hK1709 => ?_
      refine wp_block_k fun Kx1710 hKx1710 => ?_
      refine wp_seq_k fun K1711 hK1711 => ?_
      refine wp_reg ?_
      refine x_move hA (fun ac hA => ?_) rfl rfl rfl rfl rfl
      refine x_assign hA (fun ac hA => ?_) rfl rfl rfl rfl rfl
      refine wpList_nil ?_
      refine hK1711 _ _ ?_
      refine wp_seq_k fun K1712 hK1712 => ?_
      refine wp_reg ?_
      refine x_move hA (fun ac hA => ?_) rfl rfl rfl rfl rfl
      refine x_val hA (r_nilCheck rfl (hA.ev rfl)) (fun ac hA => ?_) rfl rfl rfl
      refine x_fab fa68_0 hA (fun ac hA => ?_) rfl rfl rfl rfl rfl
      refine x_ld Try.underlying66 (hS.cell 0 rfl 0 _ rfl) hA (fun ac hA => ?_) rfl rfl rfl rfl rfl rfl
      refine x_move hA (fun ac hA => ?_) rfl rfl rfl rfl rfl
      obtain ⟨x1713, h1714, hF⟩ := bnd hF
      refine x_ia Try.underlying66 sz73 (hS.rd2L 1 rfl) h1714 hA (fun ac hA => ?_) rfl rfl rfl rfl rfl rfl
      refine x_assign hA (fun ac hA => ?_) rfl rfl rfl rfl rfl
      refine wpList_nil ?_
      refine hK1712 _ _ ?_
      refine wp_seq_k fun K1715 hK1715 => ?_
      refine wp_reg ?_
      refine x_assign hA (fun ac hA => ?_) rfl rfl rfl rfl rfl
      refine wpList_nil ?_
      refine hK1715 _ _ ?_
      refine wp_seq_k fun K1716 hK1716 => ?_
      have hj1 : ∀ (x1722 : Int), files_Store_Restart_j1 l1559 x1560 x1722 = some o1704 → ∀ (ac : Act) (w : World), FR 78 [] ac [(0, .pointer (some ⟨g102, 0, none⟩)), (1, .slice A1 n1 c1), (6, .pointer (some (ea A107 (x1560.toNat * 3)))), (7, .int .i64 x1722), (14, .int .i64 (x101.f0.length : Int)), (15, .int .i64 x1560)] → SH r (blk g102 68 [.slice A107 n108 c109, .int .i64 x101.f1, .int .i64 x101.f2, .bool x101.f3, .int .i64 x101.f4] :: own2 kp73 (kI .u8) 5 (fun x : S73 => x.f1) 73 A107 n108 c109 l1559 :: L) w → K1716 ac w := by
        intro x1722 hF ac w hA hS
        unfold files_Store_Restart_j1 at hF
        refine hK1716 _ _ ?_
        refine wp_seq_k fun K1723 hK1723 => ?_
        have hj2 : ∀ (l1776 : (List S73)), files_Store_Restart_j2 x1560 l1776 = some o1704 → ∀ (ac : Act) (w : World), FR 78 [] ac [(0, .pointer (some ⟨g102, 0, none⟩)), (1, .slice A1 n1 c1), (6, .pointer (some (ea A107 (x1560.toNat * 3)))), (14, .int .i64 (x101.f0.length : Int)), (15, .int .i64 x1560)] → SH r (blk g102 68 [.slice A107 n108 c109, .int .i64 x101.f1, .int .i64 x101.f2, .bool x101.f3, .int .i64 x101.f4] :: own2 kp73 (kI .u8) 5 (fun x : S73 => x.f1) 73 A107 n108 c109 l1776 :: L) w → K1723 ac w := by
          intro l1776 hF ac w hA hS
          unfold files_Store_Restart_j2 at hF
          refine hK1723 _ _ ?_
          refine wp_reg ?_
          refine x_move hA (fun ac hA => ?_) rfl rfl rfl rfl rfl
          refine x_move hA (fun ac hA => ?_) rfl rfl rfl rfl rfl
          refine x_val hA (r_nilCheck rfl (hA.ev rfl)) (fun ac hA => ?_) rfl rfl rfl
          refine x_fae (m := x1560.toNat * 3) fa73_1 hA (fun ac hA => ?_) rfl rfl rfl rfl rfl
          obtain ⟨x1777, h1778, hF⟩ := bnd hF
          replace hS := hS.pk 1
          obtain ⟨ps1779, A1780, n1781, c1782, h1783, h1784, hS⟩ := own2_out hS h1778
          obtain ⟨cs, hV, hc1785⟩ := el (hS.rd 0 rfl) h1784
          obtain rfl := hV
          refine x_ld Try.underlying22 (hc1785 1 _ rfl) hA (fun ac hA => ?_) rfl rfl rfl rfl rfl rfl
          refine x_len Try.underlying22 (hS.rd 1 rfl).2.1 hA (fun ac hA => ?_) rfl rfl rfl rfl rfl
          refine x_val hA (r_nilCheck rfl (hA.ev rfl)) (fun ac hA => ?_) rfl rfl rfl
          refine x_fae (m := x1560.toNat * 3) fa73_2 hA (fun ac hA => ?_) rfl rfl rfl rfl rfl
          refine x_sto (z' := ((⟨x1777.f0, x1777.f1, (x1777.f1.length : Int)⟩ : S73), A1780, n1781, c1782)) (off := 2) (vs := [.int .i64 (x1777.f1.length : Int)]) 0 sz3 hA hS rfl (at_some h1784).2.2 (fun c h => by cases h; rfl) (fun  ac w hS hA => ?_) rfl rfl rfl rfl rfl rfl rfl rfl
          replace hS := hS.pk 2
          replace hS := hS.pk 2
          replace hS := hS.pk 2
          replace hS := own2_in (g := (fun x : S73 => x.f1)) (x' := (⟨x1777.f0, x1777.f1, (x1777.f1.length : Int)⟩ : S73)) h1783 h1784 hS
          refine wpList_nil ?_
          refine hKx1710 _ _ ?_
          refine hK1709 _ _ ?_
          refine wp_reg ?_
          obtain ⟨x1786, h1787, hF⟩ := ltt_ hF
          refine x_val (v := .int .i64 x1786) hA (rv_i h1787 (r_add rfl (hA.ev rfl) (hA.ev rfl))) (fun ac hA => ?_) rfl rfl rfl
          refine x_move hA (fun ac hA => ?_) rfl rfl rfl rfl rfl
          refine wpList_nil ?_
          replace hS := hS.pk 1
          cases hF
          exact ⟨_, N1704_ _ rfl, hA.sub _ rfl, hS⟩
        refine wp_seq_k fun K1788 hK1788 => ?_
        have hj3 : ∀ (b1803 : Bool), files_Store_Restart_j3 l1559 x1560 x1722 b1803 = some o1704 → ∀ (ac : Act) (w : World), FR 78 [] ac [(0, .pointer (some ⟨g102, 0, none⟩)), (1, .slice A1 n1 c1), (6, .pointer (some (ea A107 (x1560.toNat * 3)))), (7, .int .i64 x1722), (14, .int .i64 (x101.f0.length : Int)), (15, .int .i64 x1560), (47, .bool b1803)] → SH r (blk g102 68 [.slice A107 n108 c109, .int .i64 x101.f1, .int .i64 x101.f2, .bool x101.f3, .int .i64 x101.f4] :: own2 kp73 (kI .u8) 5 (fun x : S73 => x.f1) 73 A107 n108 c109 l1559 :: L) w → K1788 ac w := by
          intro b1803 hF ac w hA hS
          unfold files_Store_Restart_j3 at hF
          refine hK1788 _ _ ?_
          refine c_if hA rfl (fun hb1804 => ?_) fun hb1804 => ?_
          · replace hF := ift hb1804 hF
            refine wp_draw [0, 0, 2, 6, 14, 0, 32, 96, 224, 0, 992, 2046, 4094, 8191, 16383, 32767] [12, 15] rfl hA hS (by kernel_rfl) (by kernel_rfl) (by kernel_rfl) (by kernel_rfl) fun w hS => ?_
            obtain ⟨x1805, h1806, hF⟩ := bnd hF
            have hS_1807 := hS
            replace hS := hS.pk 1
            obtain ⟨ps1808, A1809, n1810, c1811, h1812, h1813, hS⟩ := own2_out hS h1806
            obtain ⟨cs, hV, hc1814⟩ := el (hS.rd 0 rfl) h1813
            obtain rfl := hV
            obtain ⟨cs, hV, hc1815⟩ := el (hS.rd 0 rfl) h1813
            obtain rfl := hV
            obtain ⟨x1816, h1817, hF⟩ := ltt_ hF
            obtain ⟨l1818, h1819, hF⟩ := bnd hF
            refine ⟨[(0, .pointer (some (ea A107 (x1560.toNat * 3)))), (1, .pointer (some (ea A107 (x1560.toNat * 3)))), (2, .pointer (some (ea A107 (x1560.toNat * 3)))), (3, .pointer (some (ea A107 (x1560.toNat * 3 + 1)))), (4, .slice A1809 n1810 c1811), (5, .pointer (some (ea A107 (x1560.toNat * 3)))), (6, .pointer (some (ea A107 (x1560.toNat * 3)))), (7, .pointer (some (ea A107 (x1560.toNat * 3 + 2)))), (8, .int .i64 x1805.f2), (9, .int .i64 x1722), (10, .int .i64 x1816), (11, .slice A1809 x1816.toNat c1811)], ?_⟩
            refine dEff [0, 1, 2, 3, 4, 5, 6, 7, 8, 9, 10, 11] [12] (by kernel_rfl) ⟨pu rfl rfl [(6, .pointer (some (ea A107 (x1560.toNat * 3))))] (fun ac hA => y_move hA rfl rfl) rfl rfl, pu rfl rfl [(6, .pointer (some (ea A107 (x1560.toNat * 3))))] (fun ac hA => y_move hA rfl rfl) rfl rfl, pu rfl rfl [(49, .pointer (some (ea A107 (x1560.toNat * 3))))] (fun ac hA => r_nilCheck rfl (hA.ev rfl)) rfl rfl, pu rfl rfl [(50, .pointer (some (ea A107 (x1560.toNat * 3))))] (fun ac hA => y_fae (m := x1560.toNat * 3) fa73_1 hA rfl rfl) rfl rfl, pu rfl rfl [(51, .pointer (some (ea A107 (x1560.toNat * 3 + 1))))] (fun ac hA => y_ld Try.underlying22 (hc1814 1 _ rfl) hA rfl rfl rfl) rfl rfl, pu rfl rfl [(6, .pointer (some (ea A107 (x1560.toNat * 3))))] (fun ac hA => y_move hA rfl rfl) rfl rfl, pu rfl rfl [(53, .pointer (some (ea A107 (x1560.toNat * 3))))] (fun ac hA => r_nilCheck rfl (hA.ev rfl)) rfl rfl, pu rfl rfl [(54, .pointer (some (ea A107 (x1560.toNat * 3))))] (fun ac hA => y_fae (m := x1560.toNat * 3) fa73_2 hA rfl rfl) rfl rfl, pu rfl rfl [(55, .pointer (some (ea A107 (x1560.toNat * 3 + 2))))] (fun ac hA => y_ld Try.underlying3 (hc1815 2 _ rfl) hA rfl rfl rfl) rfl rfl, pu rfl rfl [(7, .int .i64 x1722)] (fun ac hA => y_move hA rfl rfl) rfl rfl, pu rfl rfl [(56, .int .i64 x1805.f2), (57, .int .i64 x1722)] (fun ac hA => (rv_i h1817 (r_add rfl (hA.ev rfl) (hA.ev rfl)) : RunV _ _ _ _ (.int .i64 x1816))) rfl rfl, pu rfl rfl [(52, .slice A1809 n1810 c1811), (58, .int .i64 x1816)] (fun ac hA => r_slice_h Try.underlying22 sz5 rfl (hA.ev rfl) (hA.ev rfl) (cutq (hS.rd 1 rfl) h1819).2.2.2.2.1 (cutq (hS.rd 1 rfl) h1819).2.2.1) rfl rfl, trivial⟩ (by kernel_rfl) (by kernel_rfl) ⟨ef rfl [(59, .slice A1809 x1816.toNat c1811)] (fun ac hA K hK => ?_) rfl rfl, trivial⟩
            obtain ⟨y1820, h1821, hF⟩ := bnd hF
            refine z_call en39 hA (F_slices_Clone_byte_byte (L := own kp73 73 A107 n108 c109 ps1808 :: own (kI .u8) 5 A1809 n1810 c1811 x1805.f1 :: rows (kI .u8) 5 (fun x : S73 => x.f1) (ps1808.eraseIdx x1560.toNat) :: blk g102 68 [.slice A107 n108 c109, .int .i64 x101.f1, .int .i64 x101.f2, .bool x101.f3, .int .i64 x101.f4] :: L) l1818 A1809 x1816.toNat c1811 h1821 (rdl_h (RdL.own 1 rfl (hS.dropN 0)) h1819) hS) (fun v w hR => ?_) rfl rfl
            obtain ⟨B1822, m1823, d1824, rfl, hS⟩ := hR
            refine hK _ [(13, .pointer (some (ea A107 (x1560.toNat * 3)))), (14, .pointer (some (ea A107 (x1560.toNat * 3 + 1))))] _ rfl ?_
            refine dEff [0, 13, 14] [15] (by kernel_rfl) ⟨pu rfl rfl [(6, .pointer (some (ea A107 (x1560.toNat * 3))))] (fun ac hA => y_move hA rfl rfl) rfl rfl, pu rfl rfl [(48, .pointer (some (ea A107 (x1560.toNat * 3))))] (fun ac hA => r_nilCheck rfl (hA.ev rfl)) rfl rfl, pu rfl rfl [(61, .pointer (some (ea A107 (x1560.toNat * 3))))] (fun ac hA => y_fae (m := x1560.toNat * 3) fa73_1 hA rfl rfl) rfl rfl, trivial⟩ (by kernel_rfl) (by kernel_rfl) ⟨ef rfl [(60, .slice B1822 m1823 d1824), (62, .pointer (some (ea A107 (x1560.toNat * 3 + 1))))] (fun ac hA K hK => ?_) rfl rfl, trivial⟩
            refine z_sto (z' := ((⟨x1805.f0, y1820, x1805.f2⟩ : S73), B1822, m1823, d1824)) (off := 1) (vs := [.slice B1822 m1823 d1824]) 1 sz22 hA hS rfl (at_some h1813).2.2 (fun c h => by cases h; rfl) (fun  w hS => ?_) rfl rfl rfl rfl rfl rfl
            replace hS := hS.pk 3
            replace hS := hS.pk 2
            replace hS := hS.pk 2
            replace hS := own2_in (g := (fun x : S73 => x.f1)) (x' := (⟨x1805.f0, y1820, x1805.f2⟩ : S73)) h1812 h1813 hS
            refine hK _ [] _ rfl ?_
            refine dEnd [] (by kernel_rfl) trivial ⟨by kernel_rfl, by kernel_rfl⟩ [(0, .pointer (some ⟨g102, 0, none⟩)), (1, .slice A1 n1 c1), (6, .pointer (some (ea A107 (x1560.toNat * 3)))), (14, .int .i64 (x101.f0.length : Int)), (15, .int .i64 x1560)] rfl (fun ac hA => ?_)
            replace hS := hS.drop 1
            replace hS := hS.pk 1
            exact hj2 (l1559.set x1560.toNat (⟨x1805.f0, y1820, x1805.f2⟩ : S73)) hF ac w (hA.sub _ rfl) hS
          replace hF := iff' hb1804 hF
          refine wp_skip ?_
          exact hj2 l1559 hF ac w (hA.sub _ rfl) hS
        refine wp_draw [0, 1, 3, 7, 7, 23, 55, 119, 247, 7, 519, 1543, 3591, 8183, 16383, 32767] [] rfl hA hS (by kernel_rfl) (by kernel_rfl) (by kernel_rfl) (by kernel_rfl) fun w hS => ?_
        refine bcase (b := decide (0 ≤ x1722)) (fun hb1825 => ?_) fun hb1825 => ?_
        · replace hF := ift hb1825 hF
          obtain ⟨x1826, h1827, hF⟩ := bnd hF
          have hS_1828 := hS
          replace hS := hS.pk 1
          obtain ⟨ps1829, A1830, n1831, c1832, h1833, h1834, hS⟩ := own2_out hS h1827
          obtain ⟨cs, hV, hc1835⟩ := el (hS.rd 0 rfl) h1834
          obtain rfl := hV
          obtain ⟨cs, hV, hc1836⟩ := el (hS.rd 0 rfl) h1834
          obtain rfl := hV
          obtain ⟨x1837, h1838, hF⟩ := ltt_ hF
          refine ⟨[(0, .int .i64 x1722), (1, .bool (decide (0 ≤ x1722))), (2, .bool (decide (0 ≤ x1722))), (3, .int .i64 x1722), (4, .pointer (some (ea A107 (x1560.toNat * 3)))), (5, .pointer (some (ea A107 (x1560.toNat * 3)))), (6, .pointer (some (ea A107 (x1560.toNat * 3 + 1)))), (7, .slice A1830 n1831 c1832), (8, .int .i64 (x1826.f1.length : Int)), (9, .pointer (some (ea A107 (x1560.toNat * 3)))), (10, .pointer (some (ea A107 (x1560.toNat * 3)))), (11, .pointer (some (ea A107 (x1560.toNat * 3 + 2)))), (12, .int .i64 x1826.f2), (13, .int .i64 x1837), (14, .bool (decide (x1722 < x1837))), (15, .bool (decide (x1722 < x1837)))], ?_⟩
          refine dEnd [0, 1, 2, 3, 4, 5, 6, 7, 8, 9, 10, 11, 12, 13, 14, 15] (by kernel_rfl) ⟨pu rfl rfl [(7, .int .i64 x1722)] (fun ac hA => y_move hA rfl rfl) rfl rfl, pu rfl rfl [(32, .int .i64 x1722)] (fun ac hA => r_geI rfl (hA.ev rfl) (hA.ev rfl)) rfl rfl, pu rfl rfl [(33, .bool (decide (0 ≤ x1722)))] (fun ac hA => y_move hA rfl rfl) rfl rfl, puOn rfl rfl rfl rfl [(7, .int .i64 x1722), (34, .bool (decide (0 ≤ x1722)))] rfl hb1825 (fun ac hA => y_move hA rfl rfl) rfl, puOn rfl rfl rfl rfl [(6, .pointer (some (ea A107 (x1560.toNat * 3)))), (34, .bool (decide (0 ≤ x1722)))] rfl hb1825 (fun ac hA => y_move hA rfl rfl) rfl, puOn rfl rfl rfl rfl [(34, .bool (decide (0 ≤ x1722))), (36, .pointer (some (ea A107 (x1560.toNat * 3))))] rfl hb1825 (fun ac hA => r_nilCheck rfl (hA.ev rfl)) rfl, puOn rfl rfl rfl rfl [(34, .bool (decide (0 ≤ x1722))), (37, .pointer (some (ea A107 (x1560.toNat * 3))))] rfl hb1825 (fun ac hA => y_fae (m := x1560.toNat * 3) fa73_1 hA rfl rfl) rfl, puOn rfl rfl rfl rfl [(34, .bool (decide (0 ≤ x1722))), (38, .pointer (some (ea A107 (x1560.toNat * 3 + 1))))] rfl hb1825 (fun ac hA => y_ld Try.underlying22 (hc1835 1 _ rfl) hA rfl rfl rfl) rfl, puOn rfl rfl rfl rfl [(34, .bool (decide (0 ≤ x1722))), (39, .slice A1830 n1831 c1832)] rfl hb1825 (fun ac hA => y_len Try.underlying22 (hS.rd 1 rfl).2.1 hA rfl rfl) rfl, puOn rfl rfl rfl rfl [(6, .pointer (some (ea A107 (x1560.toNat * 3)))), (34, .bool (decide (0 ≤ x1722)))] rfl hb1825 (fun ac hA => y_move hA rfl rfl) rfl, puOn rfl rfl rfl rfl [(34, .bool (decide (0 ≤ x1722))), (41, .pointer (some (ea A107 (x1560.toNat * 3))))] rfl hb1825 (fun ac hA => r_nilCheck rfl (hA.ev rfl)) rfl, puOn rfl rfl rfl rfl [(34, .bool (decide (0 ≤ x1722))), (42, .pointer (some (ea A107 (x1560.toNat * 3))))] rfl hb1825 (fun ac hA => y_fae (m := x1560.toNat * 3) fa73_2 hA rfl rfl) rfl, puOn rfl rfl rfl rfl [(34, .bool (decide (0 ≤ x1722))), (43, .pointer (some (ea A107 (x1560.toNat * 3 + 2))))] rfl hb1825 (fun ac hA => y_ld Try.underlying3 (hc1836 2 _ rfl) hA rfl rfl rfl) rfl, puOn rfl rfl rfl rfl [(34, .bool (decide (0 ≤ x1722))), (40, .int .i64 (x1826.f1.length : Int)), (44, .int .i64 x1826.f2)] rfl hb1825 (fun ac hA => (rv_i h1838 (r_sub rfl (hA.ev rfl) (hA.ev rfl)) : RunV _ _ _ _ (.int .i64 x1837))) rfl, puOn rfl rfl rfl rfl [(34, .bool (decide (0 ≤ x1722))), (35, .int .i64 x1722), (45, .int .i64 x1837)] rfl hb1825 (fun ac hA => r_ltI rfl (hA.ev rfl) (hA.ev rfl)) rfl, pu rfl rfl [(34, .bool (decide (0 ≤ x1722))), (46, .bool (decide (x1722 < x1837)))] (fun ac hA => y_pickt hb1825 hA rfl rfl rfl) rfl rfl, trivial⟩ ⟨by kernel_rfl, by kernel_rfl⟩ [(0, .pointer (some ⟨g102, 0, none⟩)), (1, .slice A1 n1 c1), (6, .pointer (some (ea A107 (x1560.toNat * 3)))), (7, .int .i64 x1722), (14, .int .i64 (x101.f0.length : Int)), (15, .int .i64 x1560), (35, .int .i64 x1722), (36, .pointer (some (ea A107 (x1560.toNat * 3)))), (37, .pointer (some (ea A107 (x1560.toNat * 3)))), (38, .pointer (some (ea A107 (x1560.toNat * 3 + 1)))), (39, .slice A1830 n1831 c1832), (40, .int .i64 (x1826.f1.length : Int)), (41, .pointer (some (ea A107 (x1560.toNat * 3)))), (42, .pointer (some (ea A107 (x1560.toNat * 3)))), (43, .pointer (some (ea A107 (x1560.toNat * 3 + 2)))), (44, .int .i64 x1826.f2), (45, .int .i64 x1837), (46, .bool (decide (x1722 < x1837))), (47, .bool (decide (x1722 < x1837)))] rfl (fun ac hA => ?_)
          replace hS := hS.pk 2
          replace hS := hS.pk 2
          replace hS := hS.pk 2
          replace hS := own2_in0 (g := (fun x : S73 => x.f1)) (x := x1826) h1833 h1834 hS
          replace hS := hS.pk 1
          exact hj3 (decide (x1722 < x1837)) hF ac w (hA.sub _ rfl) hS
        replace hF := iff' hb1825 hF
        refine ⟨[(0, .int .i64 x1722), (1, .bool (decide (0 ≤ x1722))), (2, .bool (decide (0 ≤ x1722))), (3, undef), (4, undef), (5, undef), (6, undef), (7, undef), (8, undef), (9, undef), (10, undef), (11, undef), (12, undef), (13, undef), (14, undef), (15, .bool false)], ?_⟩
        refine dEnd [0, 1, 2, 3, 4, 5, 6, 7, 8, 9, 10, 11, 12, 13, 14, 15] (by kernel_rfl) ⟨pu rfl rfl [(7, .int .i64 x1722)] (fun ac hA => y_move hA rfl rfl) rfl rfl, pu rfl rfl [(32, .int .i64 x1722)] (fun ac hA => r_geI rfl (hA.ev rfl) (hA.ev rfl)) rfl rfl, pu rfl rfl [(33, .bool (decide (0 ≤ x1722)))] (fun ac hA => y_move hA rfl rfl) rfl rfl, puOff rfl rfl rfl rfl [(7, .int .i64 x1722), (34, .bool (decide (0 ≤ x1722)))] rfl hb1825 rfl, puOff rfl rfl rfl rfl [(6, .pointer (some (ea A107 (x1560.toNat * 3)))), (34, .bool (decide (0 ≤ x1722)))] rfl hb1825 rfl, puOff rfl rfl rfl rfl [(34, .bool (decide (0 ≤ x1722))), (36, undef)] rfl hb1825 rfl, puOff rfl rfl rfl rfl [(34, .bool (decide (0 ≤ x1722))), (37, undef)] rfl hb1825 rfl, puOff rfl rfl rfl rfl [(34, .bool (decide (0 ≤ x1722))), (38, undef)] rfl hb1825 rfl, puOff rfl rfl rfl rfl [(34, .bool (decide (0 ≤ x1722))), (39, undef)] rfl hb1825 rfl, puOff rfl rfl rfl rfl [(6, .pointer (some (ea A107 (x1560.toNat * 3)))), (34, .bool (decide (0 ≤ x1722)))] rfl hb1825 rfl, puOff rfl rfl rfl rfl [(34, .bool (decide (0 ≤ x1722))), (41, undef)] rfl hb1825 rfl, puOff rfl rfl rfl rfl [(34, .bool (decide (0 ≤ x1722))), (42, undef)] rfl hb1825 rfl, puOff rfl rfl rfl rfl [(34, .bool (decide (0 ≤ x1722))), (43, undef)] rfl hb1825 rfl, puOff rfl rfl rfl rfl [(34, .bool (decide (0 ≤ x1722))), (40, undef), (44, undef)] rfl hb1825 rfl, puOff rfl rfl rfl rfl [(34, .bool (decide (0 ≤ x1722))), (35, undef), (45, undef)] rfl hb1825 rfl, pu rfl rfl [(34, .bool (decide (0 ≤ x1722))), (46, undef)] (fun ac hA => y_pickf hb1825 hA rfl rfl rfl) rfl rfl, trivial⟩ ⟨by kernel_rfl, by kernel_rfl⟩ [(0, .pointer (some ⟨g102, 0, none⟩)), (1, .slice A1 n1 c1), (6, .pointer (some (ea A107 (x1560.toNat * 3)))), (7, .int .i64 x1722), (14, .int .i64 (x101.f0.length : Int)), (15, .int .i64 x1560), (47, .bool false)] rfl (fun ac hA => ?_)
        exact hj3 false hF ac w (hA.sub _ rfl) hS
      refine wp_seq_k fun K1839 hK1839 => ?_
      refine wp_reg ?_
      refine x_move hA (fun ac hA => ?_) rfl rfl rfl rfl rfl
      refine x_move hA (fun ac hA => ?_) rfl rfl rfl rfl rfl
      refine x_len Try.underlying40 (hS.rdl 2 ha1 rfl).2.1 hA (fun ac hA => ?_) rfl rfl rfl rfl rfl
      refine x_val hA (r_ltI rfl (hA.ev rfl) (hA.ev rfl)) (fun ac hA => ?_) rfl rfl rfl
      refine wpList_nil ?_
      refine hK1839 _ _ ?_
      refine c_if hA rfl (fun hb1840 => ?_) fun hb1840 => ?_
      · replace hF := ift hb1840 hF
        refine wp_reg ?_
        refine x_move hA (fun ac hA => ?_) rfl rfl rfl rfl rfl
        refine x_move hA (fun ac hA => ?_) rfl rfl rfl rfl rfl
        obtain ⟨x1841, h1842, hF⟩ := bnd hF
        refine x_ia Try.underlying40 sz3 (hS.rdl 2 ha1 rfl) h1842 hA (fun ac hA => ?_) rfl rfl rfl rfl rfl rfl
        obtain ⟨cs, hV, hc1843⟩ := el (hS.rdl 2 ha1 rfl) h1842
        obtain rfl := hV
        refine x_ld Try.underlying3 (hc1843 0 _ rfl) hA (fun ac hA => ?_) rfl rfl rfl rfl rfl rfl
        refine x_assign hA (fun ac hA => ?_) rfl rfl rfl rfl rfl
        refine wpList_nil ?_
        exact hj1 x1841 hF ac w (hA.sub _ rfl) hS
      replace hF := iff' hb1840 hF
      refine wp_skip ?_
      exact hj1 0 hF ac w (hA.sub _ rfl) hS
    replace hF := iff' hb1708 hF
    refine wp_exit ?_
    cases hF
    exact hx1704_0 l1559 (T1704_ _ rfl) ac w (hA.sub _ rfl) hS

set_option maxHeartbeats 4000000 in
theorem F_files_Store_Spoil {r : World} {L : List HP} {w : World} (a0 : (Option S68)) (a1 : (List UInt8)) (a2 : Int) (p0 : Option Addr) {y : (Int × (Option S68))} (hF : files_Store_Spoil a0 a1 a2 = some y) (hS : SH r (optP (obj68) p0 a0 :: L) w) :
    Ret Try.prog 34 #[.pointer p0, str a1, .int .i64 a2] w fun v w' => v = .int .i64 y.1 ∧ SH r (optP (obj68) p0 y.2 :: L) w' := by
  refine enter Try.func34 rfl Try.ntmps34 [(0, .pointer p0), (1, str a1), (2, .int .i64 a2)] rfl (by simp) ?_
  intro ac hA Qf hQ hQn
  unfold files_Store_Spoil at hF
  cases a0 with
  | none =>
    have hU := SH.unoptN hS
    clear hS
    obtain ⟨rfl, hS⟩ := hU
    refine wp_seq_k fun K103 hK103 => ?_
    refine wp_reg ?_
    refine x_assign hA (fun ac hA => ?_) rfl rfl rfl rfl rfl
    refine wpList_nil ?_
    refine hK103 _ _ ?_
    refine wp_seq_k fun K104 hK104 => ?_
    refine wp_seq_k fun K105 hK105 => ?_
    refine wp_reg ?_
    refine x_move hA (fun ac hA => ?_) rfl rfl rfl rfl rfl
    refine x_val (v := .bool true) hA (r_eqNilP (p := none) Try.underlying24 rfl (hA.ev rfl) (hA.ev rfl)) (fun ac hA => ?_) rfl rfl rfl
    refine wpList_nil ?_
    refine hK105 _ _ ?_
    refine c_t (b := true) rfl hA ?_ rfl
    refine wp_seq_k fun K106 hK106 => ?_
    refine wp_reg ?_
    refine x_assign hA (fun ac hA => ?_) rfl rfl rfl rfl rfl
    refine wpList_nil ?_
    refine hK106 _ _ ?_
    refine wp_ret ?_
    replace hS := SH.optN (obj68) hS
    cases hF
    refine hQ _ _ ?_
    refine lv Try.results34 hA rfl ?_
    exact ⟨rfl, hS⟩
  | some x101 =>
    have hU := SH.unoptS hS
    clear hS
    obtain ⟨g102, rfl, hS⟩ := hU
    obtain ⟨A107, n108, c109, hS⟩ := obj68_open hS
    refine wp_seq_k fun K110 hK110 => ?_
    refine wp_reg ?_
    refine x_assign hA (fun ac hA => ?_) rfl rfl rfl rfl rfl
    refine wpList_nil ?_
    refine hK110 _ _ ?_
    refine wp_seq_k fun K111 hK111 => ?_
    refine wp_seq_k fun K112 hK112 => ?_
    refine wp_reg ?_
    refine x_move hA (fun ac hA => ?_) rfl rfl rfl rfl rfl
    refine x_val (v := .bool false) hA (r_eqNilP (p := some ⟨g102, 0, none⟩) Try.underlying24 rfl (hA.ev rfl) (hA.ev rfl)) (fun ac hA => ?_) rfl rfl rfl
    refine wpList_nil ?_
    refine hK112 _ _ ?_
    refine c_f (b := false) rfl hA ?_ rfl
    refine wp_skip ?_
    refine hK111 _ _ ?_
    refine wp_seq_k fun K113 hK113 => ?_
    refine wp_reg ?_
    refine x_move hA (fun ac hA => ?_) rfl rfl rfl rfl rfl
    refine x_move hA (fun ac hA => ?_) rfl rfl rfl rfl rfl
    replace hS := hS.pk 1
    replace hS := hS.pk 1
    obtain ⟨y114, h115, hF⟩ := bnd hF
    refine x_call en36 hA (F_files_Store_find (L := L) x101 a1 g102 A107 n108 c109 h115 hS) (fun v ac w hR hA => ?_) rfl rfl rfl rfl rfl
    obtain ⟨rfl, hS⟩ := hR
    refine x_move hA (fun ac hA => ?_) rfl rfl rfl rfl rfl
    refine x_val hA (r_extract rfl (hA.ev rfl) rfl) (fun ac hA => ?_) rfl rfl rfl
    refine x_val hA (r_extract rfl (hA.ev rfl) rfl) (fun ac hA => ?_) rfl rfl rfl
    refine x_assign hA (fun ac hA => ?_) rfl rfl rfl rfl rfl
    refine x_assign hA (fun ac hA => ?_) rfl rfl rfl rfl rfl
    refine wpList_nil ?_
    refine hK113 _ _ ?_
    refine wp_seq_k fun K116 hK116 => ?_
    refine wp_block_k fun Kx117 hKx117 => ?_
    refine wp_seq_k fun K118 hK118 => ?_
    refine wp_reg ?_
    refine x_move hA (fun ac hA => ?_) rfl rfl rfl rfl rfl
    refine x_val hA (r_not rfl (hA.ev rfl)) (fun ac hA => ?_) rfl rfl rfl
    refine x_assign hA (fun ac hA => ?_) rfl rfl rfl rfl rfl
    refine wpList_nil ?_
    refine hK118 _ _ ?_
    refine c_if hA rfl (fun hb119 => ?_) fun hb119 => ?_
    · replace hF := ift hb119 hF
      refine wp_seq_k fun K120 hK120 => ?_
      refine wp_reg ?_
      refine x_assign hA (fun ac hA => ?_) rfl rfl rfl rfl rfl
      refine wpList_nil ?_
      refine hK120 _ _ ?_
      refine wp_ret ?_
      replace hS := hS.pk 1
      replace hS := hS.pk 1
      replace hS := obj68_mk (x := x101) hS
      replace hS := SH.optS hS
      cases hF
      refine hQ _ _ ?_
      refine lv Try.results34 hA rfl ?_
      exact ⟨rfl, hS⟩
    replace hF := iff' hb119 hF
    refine wp_seq_k fun K121 hK121 => ?_
    have hj1 : ∀ (b134 : Bool), files_Store_Spoil_j1 a2 x101 y114 b134 = some y → ∀ (ac : Act) (w : World), FR 70 [] ac [(0, .pointer (some ⟨g102, 0, none⟩)), (2, .int .i64 a2), (7, .int .i64 y114.1), (20, .bool b134)] → SH r (blk g102 68 [.slice A107 n108 c109, .int .i64 x101.f1, .int .i64 x101.f2, .bool x101.f3, .int .i64 x101.f4] :: own2 kp73 (kI .u8) 5 (fun x : S73 => x.f1) 73 A107 n108 c109 x101.f0 :: L) w → K121 ac w := by
      intro b134 hF ac w hA hS
      unfold files_Store_Spoil_j1 at hF
      refine hK121 _ _ ?_
      refine c_if hA rfl (fun hb135 => ?_) fun hb135 => ?_
      · replace hF := ift hb135 hF
        refine wp_seq_k fun K136 hK136 => ?_
        refine wp_reg ?_
        refine x_assign hA (fun ac hA => ?_) rfl rfl rfl rfl rfl
        refine wpList_nil ?_
        refine hK136 _ _ ?_
        refine wp_ret ?_
        replace hS := hS.pk 1
        replace hS := hS.pk 1
        replace hS := obj68_mk (x := x101) hS
        replace hS := SH.optS hS
        cases hF
        refine hQ _ _ ?_
        refine lv Try.results34 hA rfl ?_
        exact ⟨rfl, hS⟩
      replace hF := iff' hb135 hF
      refine wp_skip ?_
      refine hKx117 _ _ ?_
      refine hK116 _ _ ?_
      refine wp_seq_k fun K137 hK137 => ?_
      refine wp_draw [0, 1, 3, 7, 0, 0, 32, 96, 224, 0, 992, 2016, 4064, 8160, 16383, 32767, 65535] [13, 16] rfl hA hS (by kernel_rfl) (by kernel_rfl) (by kernel_rfl) (by kernel_rfl) fun w hS => ?_
      obtain ⟨x138, h139, hF⟩ := bnd hF
      have hS_140 := hS
      replace hS := hS.pk 1
      obtain ⟨ps141, A142, n143, c144, h145, h146, hS⟩ := own2_out hS h139
      obtain ⟨cs, hV, hc147⟩ := el (hS.rd 0 rfl) h146
      obtain rfl := hV
      refine ⟨[(0, .pointer (some ⟨g102, 0, none⟩)), (1, .pointer (some ⟨g102, 0, none⟩)), (2, .pointer (some ⟨g102, 0, none⟩)), (3, .slice A107 n108 c109), (4, .int .i64 y114.1), (5, .pointer (some ⟨g102, 0, none⟩)), (6, .pointer (some ⟨g102, 0, none⟩)), (7, .pointer (some ⟨g102, 0, none⟩)), (8, .slice A107 n108 c109), (9, .int .i64 y114.1), (10, .pointer (some (ea A107 (y114.1.toNat * 3)))), (11, .pointer (some (ea A107 (y114.1.toNat * 3 + 1)))), (12, .slice A142 n143 c144)], ?_⟩
      refine dEff [0, 1, 2, 3, 4, 5, 6, 7, 8, 9, 10, 11, 12] [13] (by kernel_rfl) ⟨pu rfl rfl [(0, .pointer (some ⟨g102, 0, none⟩))] (fun ac hA => y_move hA rfl rfl) rfl rfl, pu rfl rfl [(37, .pointer (some ⟨g102, 0, none⟩))] (fun ac hA => r_nilCheck rfl (hA.ev rfl)) rfl rfl, pu rfl rfl [(38, .pointer (some ⟨g102, 0, none⟩))] (fun ac hA => y_fab fa68_0 hA rfl rfl) rfl rfl, pu rfl rfl [(39, .pointer (some ⟨g102, 0, none⟩))] (fun ac hA => y_ld Try.underlying66 (hS_140.cell 0 rfl 0 _ rfl) hA rfl rfl rfl) rfl rfl, pu rfl rfl [(7, .int .i64 y114.1)] (fun ac hA => y_move hA rfl rfl) rfl rfl, pu rfl rfl [(0, .pointer (some ⟨g102, 0, none⟩))] (fun ac hA => y_move hA rfl rfl) rfl rfl, pu rfl rfl [(42, .pointer (some ⟨g102, 0, none⟩))] (fun ac hA => r_nilCheck rfl (hA.ev rfl)) rfl rfl, pu rfl rfl [(43, .pointer (some ⟨g102, 0, none⟩))] (fun ac hA => y_fab fa68_0 hA rfl rfl) rfl rfl, pu rfl rfl [(44, .pointer (some ⟨g102, 0, none⟩))] (fun ac hA => y_ld Try.underlying66 (hS_140.cell 0 rfl 0 _ rfl) hA rfl rfl rfl) rfl rfl, pu rfl rfl [(7, .int .i64 y114.1)] (fun ac hA => y_move hA rfl rfl) rfl rfl, pu rfl rfl [(45, .slice A107 n108 c109), (46, .int .i64 y114.1)] (fun ac hA => y_ia Try.underlying66 sz73 (hS_140.rd2L 1 rfl) h139 hA rfl rfl rfl) rfl rfl, pu rfl rfl [(47, .pointer (some (ea A107 (y114.1.toNat * 3))))] (fun ac hA => y_fae (m := y114.1.toNat * 3) fa73_1 hA rfl rfl) rfl rfl, pu rfl rfl [(48, .pointer (some (ea A107 (y114.1.toNat * 3 + 1))))] (fun ac hA => y_ld Try.underlying22 (hc147 1 _ rfl) hA rfl rfl rfl) rfl rfl, trivial⟩ (by kernel_rfl) (by kernel_rfl) ⟨ef rfl [(49, .slice A142 n143 c144)] (fun ac hA K hK => ?_) rfl rfl, trivial⟩
      obtain ⟨y148, h149, hF⟩ := bnd hF
      refine z_call en39 hA (F_slices_Clone_byte_byte (L := own kp73 73 A107 n108 c109 ps141 :: own (kI .u8) 5 A142 n143 c144 x138.f1 :: rows (kI .u8) 5 (fun x : S73 => x.f1) (ps141.eraseIdx y114.1.toNat) :: blk g102 68 [.slice A107 n108 c109, .int .i64 x101.f1, .int .i64 x101.f2, .bool x101.f3, .int .i64 x101.f4] :: L) x138.f1 A142 n143 c144 h149 (RdL.own 1 rfl (hS.dropN 0)) hS) (fun v w hR => ?_) rfl rfl
      obtain ⟨B150, m151, d152, rfl, hS⟩ := hR
      refine hK _ [(14, .pointer (some (ea A107 (y114.1.toNat * 3)))), (15, .pointer (some (ea A107 (y114.1.toNat * 3 + 1))))] _ rfl ?_
      refine dEff [0, 1, 2, 3, 4, 14, 15] [16] (by kernel_rfl) ⟨pu rfl rfl [(0, .pointer (some ⟨g102, 0, none⟩))] (fun ac hA => y_move hA rfl rfl) rfl rfl, pu rfl rfl [(37, .pointer (some ⟨g102, 0, none⟩))] (fun ac hA => r_nilCheck rfl (hA.ev rfl)) rfl rfl, pu rfl rfl [(38, .pointer (some ⟨g102, 0, none⟩))] (fun ac hA => y_fab fa68_0 hA rfl rfl) rfl rfl, pu rfl rfl [(39, .pointer (some ⟨g102, 0, none⟩))] (fun ac hA => y_ld Try.underlying66 (hS.cell 4 rfl 0 _ rfl) hA rfl rfl rfl) rfl rfl, pu rfl rfl [(7, .int .i64 y114.1)] (fun ac hA => y_move hA rfl rfl) rfl rfl, pu rfl rfl [(40, .slice A107 n108 c109), (41, .int .i64 y114.1)] (fun ac hA => y_ia Try.underlying66 sz73 (hS.rdp 1 rfl h145) h139 hA rfl rfl rfl) rfl rfl, pu rfl rfl [(51, .pointer (some (ea A107 (y114.1.toNat * 3))))] (fun ac hA => y_fae (m := y114.1.toNat * 3) fa73_1 hA rfl rfl) rfl rfl, trivial⟩ (by kernel_rfl) (by kernel_rfl) ⟨ef rfl [(50, .slice B150 m151 d152), (52, .pointer (some (ea A107 (y114.1.toNat * 3 + 1))))] (fun ac hA K hK => ?_) rfl rfl, trivial⟩
      refine z_sto (z' := ((⟨x138.f0, y148, x138.f2⟩ : S73), B150, m151, d152)) (off := 1) (vs := [.slice B150 m151 d152]) 1 sz22 hA hS rfl (at_some h146).2.2 (fun c h => by cases h; rfl) (fun  w hS => ?_) rfl rfl rfl rfl rfl rfl
      replace hS := hS.pk 3
      replace hS := hS.pk 2
      replace hS := hS.pk 2
      replace hS := own2_in (g := (fun x : S73 => x.f1)) (x' := (⟨x138.f0, y148, x138.f2⟩ : S73)) h145 h146 hS
      refine hK _ [] _ rfl ?_
      refine dEnd [] (by kernel_rfl) trivial ⟨by kernel_rfl, by kernel_rfl⟩ [(0, .pointer (some ⟨g102, 0, none⟩)), (2, .int .i64 a2), (7, .int .i64 y114.1)] rfl (fun ac hA => ?_)
      refine hK137 _ _ ?_
      refine wp_seq_k fun K153 hK153 => ?_
      refine wp_draw [0, 1, 3, 7, 0, 31, 63, 127, 0, 256, 1023, 2047, 0, 4096, 12288, 32767, 65535, 131071] [17] rfl hA hS (by kernel_rfl) (by kernel_rfl) (by kernel_rfl) (by kernel_rfl) fun w hS => ?_
      obtain ⟨x154, h155, hF⟩ := bnd hF
      have hS_156 := hS
      obtain ⟨ps157, A158, n159, c160, h161, h162, hS⟩ := own2_out hS h155
      obtain ⟨cs, hV, hc163⟩ := el (hS.rd 0 rfl) h162
      obtain rfl := hV
      obtain ⟨x164, h165, hF⟩ := ltt_ hF
      obtain ⟨x166, h167, hF⟩ := bnd hF
      obtain ⟨cs, hV, hc168⟩ := el (hS.rd 1 rfl) h167
      obtain rfl := hV
      obtain ⟨h169, hF⟩ := chk_some hF
      obtain ⟨x170, h171, hF⟩ := ltt_ hF
      obtain ⟨x172, h173, hF⟩ := ltt_ hF
      refine ⟨[(0, .pointer (some ⟨g102, 0, none⟩)), (1, .pointer (some ⟨g102, 0, none⟩)), (2, .pointer (some ⟨g102, 0, none⟩)), (3, .slice A107 n108 c109), (4, .int .i64 y114.1), (5, .pointer (some (ea A107 (y114.1.toNat * 3)))), (6, .pointer (some (ea A107 (y114.1.toNat * 3 + 1)))), (7, .slice A158 n159 c160), (8, .int .i64 a2), (9, .int .i64 x164), (10, .pointer (some (ea A158 (x164.toNat * 1)))), (11, .int .u8 x166), (12, .int .i64 a2), (13, .int .i64 (a2.tmod 8)), (14, .int .u8 x170), (15, .int .u8 x172), (16, .pointer (some (ea A158 (x164.toNat * 1))))], ?_⟩
      refine dEff [0, 1, 2, 3, 4, 5, 6, 7, 8, 9, 10, 11, 12, 13, 14, 15, 16] [17] (by kernel_rfl) ⟨pu rfl rfl [(0, .pointer (some ⟨g102, 0, none⟩))] (fun ac hA => y_move hA rfl rfl) rfl rfl, pu rfl rfl [(53, .pointer (some ⟨g102, 0, none⟩))] (fun ac hA => r_nilCheck rfl (hA.ev rfl)) rfl rfl, pu rfl rfl [(54, .pointer (some ⟨g102, 0, none⟩))] (fun ac hA => y_fab fa68_0 hA rfl rfl) rfl rfl, pu rfl rfl [(55, .pointer (some ⟨g102, 0, none⟩))] (fun ac hA => y_ld Try.underlying66 (hS_156.cell 2 rfl 0 _ rfl) hA rfl rfl rfl) rfl rfl, pu rfl rfl [(7, .int .i64 y114.1)] (fun ac hA => y_move hA rfl rfl) rfl rfl, pu rfl rfl [(56, .slice A107 n108 c109), (57, .int .i64 y114.1)] (fun ac hA => y_ia Try.underlying66 sz73 (hS_156.rd2L 0 rfl) h155 hA rfl rfl rfl) rfl rfl, pu rfl rfl [(58, .pointer (some (ea A107 (y114.1.toNat * 3))))] (fun ac hA => y_fae (m := y114.1.toNat * 3) fa73_1 hA rfl rfl) rfl rfl, pu rfl rfl [(59, .pointer (some (ea A107 (y114.1.toNat * 3 + 1))))] (fun ac hA => y_ld Try.underlying22 (hc163 1 _ rfl) hA rfl rfl rfl) rfl rfl, pu rfl rfl [(2, .int .i64 a2)] (fun ac hA => y_move hA rfl rfl) rfl rfl, pu rfl rfl [(61, .int .i64 a2)] (fun ac hA => (rv_i h165 (r_quo rfl (hA.ev rfl) (hA.ev rfl) (by decide)) : RunV _ _ _ _ (.int .i64 x164))) rfl rfl, pu rfl rfl [(60, .slice A158 n159 c160), (62, .int .i64 x164)] (fun ac hA => y_ia Try.underlying22 sz5 (hS.rd 1 rfl) h167 hA rfl rfl rfl) rfl rfl, pu rfl rfl [(63, .pointer (some (ea A158 (x164.toNat * 1))))] (fun ac hA => y_ld Try.underlying5 (hc168 0 _ rfl) hA rfl rfl rfl) rfl rfl, pu rfl rfl [(2, .int .i64 a2)] (fun ac hA => y_move hA rfl rfl) rfl rfl, pu rfl rfl [(65, .int .i64 a2)] (fun ac hA => r_rem rfl (hA.ev rfl) (hA.ev rfl) (by decide)) rfl rfl, pu rfl rfl [(66, .int .i64 (a2.tmod 8))] (fun ac hA => (rv_i h171 (r_shl rfl (hA.ev rfl) (hA.ev rfl) h169) : RunV _ _ _ _ (.int .u8 x170))) rfl rfl, pu rfl rfl [(64, .int .u8 x166), (67, .int .u8 x170)] (fun ac hA => (rv_i h173 (r_xor rfl (hA.ev rfl) (hA.ev rfl)) : RunV _ _ _ _ (.int .u8 x172))) rfl rfl, pu rfl rfl [(60, .slice A158 n159 c160), (62, .int .i64 x164)] (fun ac hA => y_ia Try.underlying22 sz5 (hS.rd 1 rfl) h167 hA rfl rfl rfl) rfl rfl, trivial⟩ (by kernel_rfl) (by kernel_rfl) ⟨ef rfl [(68, .int .u8 x172), (69, .pointer (some (ea A158 (x164.toNat * 1))))] (fun ac hA K hK => ?_) rfl rfl, trivial⟩
      refine z_sto (z' := x172) (off := 0) (vs := [.int .u8 x172]) 1 sz5 hA hS rfl (at_some h167).2.2 (fun c h => by cases h; rfl) (fun  w hS => ?_) rfl rfl rfl rfl rfl rfl
      refine hK _ [] _ rfl ?_
      refine dEnd [] (by kernel_rfl) trivial ⟨by kernel_rfl, by kernel_rfl⟩ [(0, .pointer (some ⟨g102, 0, none⟩))] rfl (fun ac hA => ?_)
      refine hK153 _ _ ?_
      refine wp_seq_k fun K174 hK174 => ?_
      refine wp_reg ?_
      refine x_assign hA (fun ac hA => ?_) rfl rfl rfl rfl rfl
      refine wpList_nil ?_
      refine hK174 _ _ ?_
      refine wp_ret ?_
      replace hS := hS.pk 2
      replace hS := hS.pk 1
      replace hS := hS.pk 2
      replace hS := own_put (p' := ((⟨x154.f0, x154.f1.set x164.toNat x172, x154.f2⟩ : S73), A158, n159, c160)) hS (at_some h162).2.2 (fun c h => by cases h; rfl)
      replace hS := own2_in (g := (fun x : S73 => x.f1)) (x' := (⟨x154.f0, x154.f1.set x164.toNat x172, x154.f2⟩ : S73)) h161 h162 hS
      replace hS := hS.pk 2
      replace hS := obj68_mk (x := (⟨(x101.f0.set y114.1.toNat (⟨x138.f0, y148, x138.f2⟩ : S73)).set y114.1.toNat (⟨x154.f0, x154.f1.set x164.toNat x172, x154.f2⟩ : S73), x101.f1, x101.f2, x101.f3, x101.f4⟩ : S68)) hS
      replace hS := SH.optS hS
      replace hS := hS.drop 1
      cases hF
      refine hQ _ _ ?_
      refine lv Try.results34 hA rfl ?_
      exact ⟨rfl, hS⟩
    refine wp_reg ?_
    refine x_move hA (fun ac hA => ?_) rfl rfl rfl rfl rfl
    refine x_val hA (r_ltI rfl (hA.ev rfl) (hA.ev rfl)) (fun ac hA => ?_) rfl rfl rfl
    refine x_move hA (fun ac hA => ?_) rfl rfl rfl rfl rfl
    refine bcase (b := decide (a2 < 0)) (fun hb175 => ?_) fun hb175 => ?_
    · replace hF := ift hb175 hF
      refine x_off hb175 hA (fun ac hA => ?_) rfl rfl rfl rfl rfl
      refine x_off hb175 hA (fun ac hA => ?_) rfl rfl rfl rfl rfl
      refine x_off hb175 hA (fun ac hA => ?_) rfl rfl rfl rfl rfl
      refine x_off hb175 hA (fun ac hA => ?_) rfl rfl rfl rfl rfl
      refine x_off hb175 hA (fun ac hA => ?_) rfl rfl rfl rfl rfl
      refine x_off hb175 hA (fun ac hA => ?_) rfl rfl rfl rfl rfl
      refine x_off hb175 hA (fun ac hA => ?_) rfl rfl rfl rfl rfl
      refine x_off hb175 hA (fun ac hA => ?_) rfl rfl rfl rfl rfl
      refine x_off hb175 hA (fun ac hA => ?_) rfl rfl rfl rfl rfl
      refine x_off hb175 hA (fun ac hA => ?_) rfl rfl rfl rfl rfl
      refine x_off hb175 hA (fun ac hA => ?_) rfl rfl rfl rfl rfl
      refine x_off hb175 hA (fun ac hA => ?_) rfl rfl rfl rfl rfl
      refine x_pickt hb175 hA (fun ac hA => ?_) rfl rfl rfl rfl rfl rfl
      refine x_assign hA (fun ac hA => ?_) rfl rfl rfl rfl rfl
      refine wpList_nil ?_
      exact hj1 true hF ac w (hA.sub _ rfl) hS
    replace hF := iff' hb175 hF
    refine x_on hb175 hA ?_ rfl rfl rfl
    refine x_move hA (fun ac hA => ?_) rfl rfl rfl rfl rfl
    refine x_on hb175 hA ?_ rfl rfl rfl
    refine x_move hA (fun ac hA => ?_) rfl rfl rfl rfl rfl
    refine x_on hb175 hA ?_ rfl rfl rfl
    refine x_val hA (r_nilCheck rfl (hA.ev rfl)) (fun ac hA => ?_) rfl rfl rfl
    refine x_on hb175 hA ?_ rfl rfl rfl
    refine x_fab fa68_0 hA (fun ac hA => ?_) rfl rfl rfl rfl rfl
    refine x_on hb175 hA ?_ rfl rfl rfl
    refine x_ld Try.underlying66 (hS.cell 0 rfl 0 _ rfl) hA (fun ac hA => ?_) rfl rfl rfl rfl rfl rfl
    refine x_on hb175 hA ?_ rfl rfl rfl
    refine x_move hA (fun ac hA => ?_) rfl rfl rfl rfl rfl
    refine x_on hb175 hA ?_ rfl rfl rfl
    obtain ⟨x176, h177, hF⟩ := bnd hF
    refine x_ia Try.underlying66 sz73 (hS.rd2L 1 rfl) h177 hA (fun ac hA => ?_) rfl rfl rfl rfl rfl rfl
    refine x_on hb175 hA ?_ rfl rfl rfl
    refine x_fae (m := y114.1.toNat * 3) fa73_1 hA (fun ac hA => ?_) rfl rfl rfl rfl rfl
    refine x_on hb175 hA ?_ rfl rfl rfl
    replace hS := hS.pk 1
    obtain ⟨ps178, A179, n180, c181, h182, h183, hS⟩ := own2_out hS h177
    obtain ⟨cs, hV, hc184⟩ := el (hS.rd 0 rfl) h183
    obtain rfl := hV
    refine x_ld Try.underlying22 (hc184 1 _ rfl) hA (fun ac hA => ?_) rfl rfl rfl rfl rfl rfl
    refine x_on hb175 hA ?_ rfl rfl rfl
    refine x_len Try.underlying22 (hS.rd 1 rfl).2.1 hA (fun ac hA => ?_) rfl rfl rfl rfl rfl
    refine x_on hb175 hA ?_ rfl rfl rfl
    obtain ⟨x185, h186, hF⟩ := ltt_ hF
    refine x_val (v := .int .i64 x185) hA (rv_i h186 (r_mul rfl (hA.ev rfl) (hA.ev rfl))) (fun ac hA => ?_) rfl rfl rfl
    refine x_on hb175 hA ?_ rfl rfl rfl
    refine x_val hA (r_geI rfl (hA.ev rfl) (hA.ev rfl)) (fun ac hA => ?_) rfl rfl rfl
    refine x_pickf hb175 hA (fun ac hA => ?_) rfl rfl rfl rfl rfl rfl
    refine x_assign hA (fun ac hA => ?_) rfl rfl rfl rfl rfl
    refine wpList_nil ?_
    replace hS := hS.pk 2
    replace hS := hS.pk 2
    replace hS := hS.pk 2
    replace hS := own2_in0 (g := (fun x : S73 => x.f1)) (x := x176) h182 h183 hS
    replace hS := hS.pk 1
    exact hj1 (decide (x185 ≤ a2)) hF ac w (hA.sub _ rfl) hS
end Go.Proofs.Ytgjhiojkkjaloaa.M
