/- The calls come to the plain functions. -/
import Derived.Test.YtgjhiojkkjaloaaKd
import Derived.Test.YtgjhiojkkjaloaaGr
import Derived.Test.YtgjhiojkkjaloaaDa
namespace Go.Proofs.Ytgjhiojkkjaloaa.M
open Go Go.RowKit Go.Proofs.Ytgjhiojkkjaloaa.E
set_option linter.unusedVariables false
set_option linter.unusedSimpArgs false

set_option maxHeartbeats 4000000 in
theorem F_slices_Insert_files_file_files_file {r : World} {L : List HP} {w : World} (a0 : (List (S73 × Hd))) (k0 : Nat) (a1 : Int) (a2 : (List (S73 × Hd))) (A0 : Option Addr) (n0 : Nat) (A2 : Option Addr) (n2 : Nat) (c2 : Nat) {y : ((List (S73 × Hd)))} (hF : slices_Insert_files_file_files_file a0 k0 a1 a2 = some y) (hS : SH r (own kp73 73 A0 n0 k0 a0 :: own kp73 73 A2 n2 c2 a2 :: L) w) :
    Ret Try.prog 38 #[.slice A0 n0 k0, .int .i64 a1, .slice A2 n2 c2] w fun v w' => ∃ (B0 : Option Addr) (m0 : Nat) (d0 : Nat), v = .slice B0 m0 d0 ∧ SH r (own kp73 73 B0 m0 d0 y :: L) w' := by
  refine enter Try.func38 rfl Try.ntmps38 [(0, .slice A0 n0 k0), (1, .int .i64 a1), (2, .slice A2 n2 c2)] rfl (by simp) ?_
  intro ac hA Qf hQ hQn
  unfold slices_Insert_files_file_files_file at hF
  obtain rfl := (hS.rd 0 rfl).2.1
  obtain rfl := (hS.rd 1 rfl).2.1
  refine wp_seq_k fun K101 hK101 => ?_
  refine wp_reg ?_
  refine x_assign hA (fun ac hA => ?_) rfl rfl rfl rfl rfl
  refine wpList_nil ?_
  refine hK101 _ _ ?_
  refine wp_seq_k fun K102 hK102 => ?_
  refine wp_reg ?_
  refine x_move hA (fun ac hA => ?_) rfl rfl rfl rfl rfl
  refine x_move hA (fun ac hA => ?_) rfl rfl rfl rfl rfl
  obtain ⟨l103, h104, hF⟩ := bnd hF
  refine x_val hA (r_slice_l Try.underlying66 sz73 rfl (hA.ev rfl) (hA.ev rfl) (cutq (hS.rd 0 rfl) h104).1 (cutq (hS.rd 0 rfl) h104).2.2.2.2.2) (fun ac hA => ?_) rfl rfl rfl
  refine wpList_nil ?_
  refine hK102 _ _ ?_
  refine wp_seq_k fun K105 hK105 => ?_
  refine wp_reg ?_
  refine x_move hA (fun ac hA => ?_) rfl rfl rfl rfl rfl
  refine x_len Try.underlying66 (hS.rd 1 rfl).2.1 hA (fun ac hA => ?_) rfl rfl rfl rfl rfl
  refine x_assign hA (fun ac hA => ?_) rfl rfl rfl rfl rfl
  refine wpList_nil ?_
  refine hK105 _ _ ?_
  refine wp_seq_k fun K106 hK106 => ?_
  refine wp_seq_k fun K107 hK107 => ?_
  refine wp_reg ?_
  refine x_move hA (fun ac hA => ?_) rfl rfl rfl rfl rfl
  refine x_val hA (r_eqI rfl (hA.ev rfl) (hA.ev rfl)) (fun ac hA => ?_) rfl rfl rfl
  refine wpList_nil ?_
  refine hK107 _ _ ?_
  refine c_if hA rfl (fun hb108 => ?_) fun hb108 => ?_
  · replace hF := ift hb108 hF
    refine wp_seq_k fun K109 hK109 => ?_
    refine wp_reg ?_
    refine x_move hA (fun ac hA => ?_) rfl rfl rfl rfl rfl
    refine x_assign hA (fun ac hA => ?_) rfl rfl rfl rfl rfl
    refine wpList_nil ?_
    refine hK109 _ _ ?_
    refine wp_ret ?_
    replace hS := hS.drop 1
    cases hF
    refine hQ _ _ ?_
    refine lv Try.results38 hA rfl ?_
    exact ⟨A0, a0.length, k0, rfl, hS⟩
  replace hF := iff' hb108 hF
  refine wp_skip ?_
  refine hK106 _ _ ?_
  refine wp_seq_k fun K110 hK110 => ?_
  refine wp_reg ?_
  refine x_move hA (fun ac hA => ?_) rfl rfl rfl rfl rfl
  refine x_len Try.underlying66 (hS.rd 0 rfl).2.1 hA (fun ac hA => ?_) rfl rfl rfl rfl rfl
  refine x_assign hA (fun ac hA => ?_) rfl rfl rfl rfl rfl
  refine wpList_nil ?_
  refine hK110 _ _ ?_
  refine wp_seq_k fun K111 hK111 => ?_
  refine wp_seq_k fun K112 hK112 => ?_
  refine wp_reg ?_
  refine x_move hA (fun ac hA => ?_) rfl rfl rfl rfl rfl
  refine x_move hA (fun ac hA => ?_) rfl rfl rfl rfl rfl
  refine x_val hA (r_eqI rfl (hA.ev rfl) (hA.ev rfl)) (fun ac hA => ?_) rfl rfl rfl
  refine wpList_nil ?_
  refine hK112 _ _ ?_
  refine c_if hA rfl (fun hb113 => ?_) fun hb113 => ?_
  · replace hF := ift hb113 hF
    refine wp_seq_k fun K114 hK114 => ?_
    refine wp_reg ?_
    refine x_move hA (fun ac hA => ?_) rfl rfl rfl rfl rfl
    refine x_move hA (fun ac hA => ?_) rfl rfl rfl rfl rfl
    obtain ⟨h115, hF⟩ := chk_some hF
    have hr := hS.rd 1 rfl
    refine x_app 0 inf73 Try.underlying66 hA hS hr.1 hr.2.1 h115 rfl (fun A116 n117 c118 ac w hS hA => ?_) rfl rfl rfl rfl rfl rfl rfl rfl rfl
    refine x_assign hA (fun ac hA => ?_) rfl rfl rfl rfl rfl
    refine wpList_nil ?_
    refine hK114 _ _ ?_
    refine wp_ret ?_
    replace hS := hS.drop 1
    cases hF
    refine hQ _ _ ?_
    refine lv Try.results38 hA rfl ?_
    exact ⟨A116, n117, c118, rfl, hS⟩
  replace hF := iff' hb113 hF
  refine wp_skip ?_
  refine hK111 _ _ ?_
  refine wp_seq_k fun K119 hK119 => ?_
  refine wp_seq_k fun K120 hK120 => ?_
  refine wp_reg ?_
  refine x_move hA (fun ac hA => ?_) rfl rfl rfl rfl rfl
  refine x_move hA (fun ac hA => ?_) rfl rfl rfl rfl rfl
  obtain ⟨x121, h122, hF⟩ := ltt_ hF
  refine x_val (v := .int .i64 x121) hA (rv_i h122 (r_add rfl (hA.ev rfl) (hA.ev rfl))) (fun ac hA => ?_) rfl rfl rfl
  refine x_move hA (fun ac hA => ?_) rfl rfl rfl rfl rfl
  refine x_val hA (r_cap Try.underlying66 rfl (hA.ev rfl)) (fun ac hA => ?_) rfl rfl rfl
  refine x_val hA (r_gtI rfl (hA.ev rfl) (hA.ev rfl)) (fun ac hA => ?_) rfl rfl rfl
  refine wpList_nil ?_
  refine hK120 _ _ ?_
  refine c_if hA rfl (fun hb123 => ?_) fun hb123 => ?_
  · replace hF := ift hb123 hF
    refine wp_seq_k fun K124 hK124 => ?_
    refine wp_reg ?_
    refine x_move hA (fun ac hA => ?_) rfl rfl rfl rfl rfl
    refine x_move hA (fun ac hA => ?_) rfl rfl rfl rfl rfl
    obtain ⟨l125, h126, hF⟩ := bnd hF
    refine x_val hA (r_slice_h Try.underlying66 sz73 rfl (hA.ev rfl) (hA.ev rfl) (cutq (hS.rd 0 rfl) h126).2.2.2.2.1 (cutq (hS.rd 0 rfl) h126).2.2.1) (fun ac hA => ?_) rfl rfl rfl
    refine x_move hA (fun ac hA => ?_) rfl rfl rfl rfl rfl
    refine x_move hA (fun ac hA => ?_) rfl rfl rfl rfl rfl
    refine x_val (v := .int .i64 x121) hA (rv_i h122 (r_add rfl (hA.ev rfl) (hA.ev rfl))) (fun ac hA => ?_) rfl rfl rfl
    refine x_move hA (fun ac hA => ?_) rfl rfl rfl rfl rfl
    obtain ⟨x127, h128, hF⟩ := ltt_ hF
    refine x_val (v := .int .i64 x127) hA (rv_i h128 (r_sub rfl (hA.ev rfl) (hA.ev rfl))) (fun ac hA => ?_) rfl rfl rfl
    obtain ⟨h129, hF⟩ := chk_some hF
    refine x_apZ (((⟨[], [], 0⟩ : S73), none, 0, 0) : S73 × Hd) Try.underlying66 Try.underlying3 inf73 rfl hA hS (rq_h (hS.rd 0 rfl) h126).1 (rq_h (hS.rd 0 rfl) h126).2.1 h129 (fun g130 c131 ac w hS hA => ?_) rfl rfl rfl rfl rfl rfl rfl rfl
    obtain ⟨q132, h133, hF⟩ := ltt_ hF
    rw [← h133] at hS
    refine x_assign hA (fun ac hA => ?_) rfl rfl rfl rfl rfl
    refine wpList_nil ?_
    refine hK124 _ _ ?_
    refine wp_seq_k fun K134 hK134 => ?_
    refine wp_reg ?_
    refine x_move hA (fun ac hA => ?_) rfl rfl rfl rfl rfl
    refine x_move hA (fun ac hA => ?_) rfl rfl rfl rfl rfl
    obtain ⟨h135, hF⟩ := chk_some hF
    have h136 := hS.rd 0 rfl
    refine x_val (v := .slice (some ⟨g130, (0 + a1.toNat) * 3, none⟩) ((a1.toNat + x127.toNat) - a1.toNat) (c131 - a1.toNat)) hA (r_row_l (lo := 0) Try.underlying66 sz73 rfl (hA.ev rfl) (hA.ev rfl) ⟨h135.1, by have := h136.2.1; omega, h136.2.2.1⟩) (fun ac hA => ?_) rfl rfl rfl
    refine x_move hA (fun ac hA => ?_) rfl rfl rfl rfl rfl
    obtain ⟨h137, hF⟩ := chk_some hF
    refine x_cpO (lo := (0 + a1.toNat)) (zs := a2.take (min a2.length (q132.length - a1.toNat))) 0 Try.underlying66 sz73 hA hS (Rd.take_ (hS.rd 2 rfl).1 _) (cpk (hS.rd 2 rfl).2.1 (by have := h136.2.1; omega)) h137 rfl (fun v138 ac w hS hA => ?_) rfl rfl rfl rfl rfl rfl
    obtain ⟨q139, h140, hF⟩ := ltt_ hF
    rw [← h140] at hS
    refine wpList_nil ?_
    refine hK134 _ _ ?_
    refine wp_seq_k fun K141 hK141 => ?_
    refine wp_draw [0, 0, 0, 6, 15, 0, 0, 96, 255] [8] rfl hA hS (by kernel_rfl) (by kernel_rfl) (by kernel_rfl) (by kernel_rfl) fun w hS => ?_
    obtain ⟨x142, h143, hF⟩ := ltt_ hF
    obtain ⟨h144, hF⟩ := chk_some hF
    have h145 := hS.rd 0 rfl
    obtain ⟨l146, h147, hF⟩ := bnd hF
    refine ⟨[(0, .slice (some ⟨g130, 0, none⟩) (a1.toNat + x127.toNat) c131), (1, .int .i64 a1), (2, .int .i64 (a2.length : Int)), (3, .int .i64 x142), (4, .slice (some ⟨g130, (0 + x142.toNat) * 3, none⟩) ((a1.toNat + x127.toNat) - x142.toNat) (c131 - x142.toNat)), (5, .slice A0 a0.length k0), (6, .int .i64 a1), (7, .slice (if k0 = a1.toNat then A0 else A0.map (·.add (a1.toNat * 3))) (a0.length - a1.toNat) (k0 - a1.toNat))], ?_⟩
    refine dEff [0, 1, 2, 3, 4, 5, 6, 7] [8] (by kernel_rfl) ⟨pu rfl rfl [(9, .slice (some ⟨g130, 0, none⟩) (a1.toNat + x127.toNat) c131)] (fun ac hA => y_move hA rfl rfl) rfl rfl, pu rfl rfl [(1, .int .i64 a1)] (fun ac hA => y_move hA rfl rfl) rfl rfl, pu rfl rfl [(7, .int .i64 (a2.length : Int))] (fun ac hA => y_move hA rfl rfl) rfl rfl, pu rfl rfl [(47, .int .i64 a1), (48, .int .i64 (a2.length : Int))] (fun ac hA => (rv_i h143 (r_add rfl (hA.ev rfl) (hA.ev rfl)) : RunV _ _ _ _ (.int .i64 x142))) rfl rfl, pu rfl rfl [(46, .slice (some ⟨g130, 0, none⟩) (a1.toNat + x127.toNat) c131), (49, .int .i64 x142)] (fun ac hA => (r_row_l (lo := 0) Try.underlying66 sz73 rfl (hA.ev rfl) (hA.ev rfl) ⟨h144.1, by have := h145.2.1; omega, h145.2.2.1⟩ : RunV _ _ _ _ (.slice (some ⟨g130, (0 + x142.toNat) * 3, none⟩) ((a1.toNat + x127.toNat) - x142.toNat) (c131 - x142.toNat)))) rfl rfl, pu rfl rfl [(0, .slice A0 a0.length k0)] (fun ac hA => y_move hA rfl rfl) rfl rfl, pu rfl rfl [(1, .int .i64 a1)] (fun ac hA => y_move hA rfl rfl) rfl rfl, pu rfl rfl [(51, .slice A0 a0.length k0), (52, .int .i64 a1)] (fun ac hA => r_slice_l Try.underlying66 sz73 rfl (hA.ev rfl) (hA.ev rfl) (cutq (hS.rd 1 rfl) h147).1 (cutq (hS.rd 1 rfl) h147).2.2.2.2.2) rfl rfl, trivial⟩ (by kernel_rfl) (by kernel_rfl) ⟨ef rfl [(50, .slice (some ⟨g130, (0 + x142.toNat) * 3, none⟩) ((a1.toNat + x127.toNat) - x142.toNat) (c131 - x142.toNat)), (53, .slice (if k0 = a1.toNat then A0 else A0.map (·.add (a1.toNat * 3))) (a0.length - a1.toNat) (k0 - a1.toNat))] (fun ac hA K hK => ?_) rfl rfl, trivial⟩
    obtain ⟨h148, hF⟩ := chk_some hF
    refine z_cpO (lo := (0 + x142.toNat)) (zs := l146.take (min l146.length (q139.length - x142.toNat))) 0 Try.underlying66 sz73 hA hS (Rd.take_ (rq_l (hS.rd 1 rfl) h147).1 _) (cpk (rq_l (hS.rd 1 rfl) h147).2.1 (by have := h145.2.1; omega)) h148 rfl (fun v149 w hS => ?_) rfl rfl rfl
    obtain ⟨q150, h151, hF⟩ := ltt_ hF
    rw [← h151] at hS
    refine hK _ [] _ rfl ?_
    refine dEnd [] (by kernel_rfl) trivial ⟨by kernel_rfl, by kernel_rfl⟩ [(9, .slice (some ⟨g130, 0, none⟩) (a1.toNat + x127.toNat) c131)] rfl (fun ac hA => ?_)
    refine hK141 _ _ ?_
    refine wp_seq_k fun K152 hK152 => ?_
    refine wp_reg ?_
    refine x_move hA (fun ac hA => ?_) rfl rfl rfl rfl rfl
    refine x_assign hA (fun ac hA => ?_) rfl rfl rfl rfl rfl
    refine wpList_nil ?_
    refine hK152 _ _ ?_
    refine wp_ret ?_
    replace hS := hS.drop 1
    replace hS := hS.drop 1
    cases hF
    refine hQ _ _ ?_
    refine lv Try.results38 hA rfl ?_
    exact ⟨some ⟨g130, 0, none⟩, a1.toNat + x127.toNat, c131, rfl, hS⟩
  replace hF := iff' hb123 hF
  refine wp_skip ?_
  refine hK119 _ _ ?_
  refine wp_seq_k fun K153 hK153 => ?_
  obtain ⟨h155, hF⟩ := chk_some hF
  have hQ0 := own_row' h155 hS
  clear hS
  obtain ⟨g154, rfl, hS⟩ := hQ0
  refine wp_reg ?_
  refine x_move hA (fun ac hA => ?_) rfl rfl rfl rfl rfl
  refine x_move hA (fun ac hA => ?_) rfl rfl rfl rfl rfl
  refine x_move hA (fun ac hA => ?_) rfl rfl rfl rfl rfl
  refine x_val (v := .int .i64 x121) hA (rv_i h122 (r_add rfl (hA.ev rfl) (hA.ev rfl))) (fun ac hA => ?_) rfl rfl rfl
  obtain ⟨h156, hF⟩ := chk_some hF
  refine x_val hA (r_slice_h Try.underlying66 sz73 rfl (hA.ev rfl) (hA.ev rfl) h156.1 h156.2) (fun ac hA => ?_) rfl rfl rfl
  refine x_assign hA (fun ac hA => ?_) rfl rfl rfl rfl rfl
  refine wpList_nil ?_
  refine hK153 _ _ ?_
  refine wp_seq_k fun K157 hK157 => ?_
  refine wp_seq_k fun K158 hK158 => ?_
  refine wp_reg ?_
  refine x_move hA (fun ac hA => ?_) rfl rfl rfl rfl rfl
  refine x_move hA (fun ac hA => ?_) rfl rfl rfl rfl rfl
  refine x_move hA (fun ac hA => ?_) rfl rfl rfl rfl rfl
  refine x_move hA (fun ac hA => ?_) rfl rfl rfl rfl rfl
  obtain ⟨x159, h160, hF⟩ := ltt_ hF
  refine x_val (v := .int .i64 x159) hA (rv_i h160 (r_add rfl (hA.ev rfl) (hA.ev rfl))) (fun ac hA => ?_) rfl rfl rfl
  obtain ⟨h161, hF⟩ := chk_some hF
  refine x_val (v := .slice (some ⟨g154, (0 + x159.toNat) * 3, none⟩) (x121.toNat - x159.toNat) (k0 - x159.toNat)) hA (r_row_l (lo := 0) Try.underlying66 sz73 rfl (hA.ev rfl) (hA.ev rfl) h161) (fun ac hA => ?_) rfl rfl rfl
  obtain ⟨h162, hF⟩ := chk_some hF
  refine x_val (v := .bool false) hA (r_extw (ovl51 (ov_apart Try.underlying66 sz73 hS 1 0 rfl rfl (by decide) h162)) rfl (evs hA rfl)) (fun ac hA => ?_) rfl rfl rfl
  refine x_val hA (r_not rfl (hA.ev rfl)) (fun ac hA => ?_) rfl rfl rfl
  refine wpList_nil ?_
  refine hK158 _ _ ?_
  refine c_t (b := true) rfl hA ?_ rfl
  refine wp_seq_k fun K163 hK163 => ?_
  refine wp_draw [0, 0, 0, 6, 15, 0, 0, 96, 255] [8] rfl hA hS (by kernel_rfl) (by kernel_rfl) (by kernel_rfl) (by kernel_rfl) fun w hS => ?_
  obtain ⟨h164, hF⟩ := chk_some hF
  obtain ⟨h165, hF⟩ := chk_some hF
  refine ⟨[(0, .slice (some ⟨g154, 0, none⟩) x121.toNat k0), (1, .int .i64 a1), (2, .int .i64 (a2.length : Int)), (3, .int .i64 x159), (4, .slice (some ⟨g154, (0 + x159.toNat) * 3, none⟩) (x121.toNat - x159.toNat) (k0 - x159.toNat)), (5, .slice (some ⟨g154, 0, none⟩) x121.toNat k0), (6, .int .i64 a1), (7, .slice (some ⟨g154, (0 + a1.toNat) * 3, none⟩) (x121.toNat - a1.toNat) (k0 - a1.toNat))], ?_⟩
  refine dEff [0, 1, 2, 3, 4, 5, 6, 7] [8] (by kernel_rfl) ⟨pu rfl rfl [(0, .slice (some ⟨g154, 0, none⟩) x121.toNat k0)] (fun ac hA => y_move hA rfl rfl) rfl rfl, pu rfl rfl [(1, .int .i64 a1)] (fun ac hA => y_move hA rfl rfl) rfl rfl, pu rfl rfl [(7, .int .i64 (a2.length : Int))] (fun ac hA => y_move hA rfl rfl) rfl rfl, pu rfl rfl [(70, .int .i64 a1), (71, .int .i64 (a2.length : Int))] (fun ac hA => (rv_i h160 (r_add rfl (hA.ev rfl) (hA.ev rfl)) : RunV _ _ _ _ (.int .i64 x159))) rfl rfl, pu rfl rfl [(69, .slice (some ⟨g154, 0, none⟩) x121.toNat k0), (72, .int .i64 x159)] (fun ac hA => (r_row_l (lo := 0) Try.underlying66 sz73 rfl (hA.ev rfl) (hA.ev rfl) h164 : RunV _ _ _ _ (.slice (some ⟨g154, (0 + x159.toNat) * 3, none⟩) (x121.toNat - x159.toNat) (k0 - x159.toNat)))) rfl rfl, pu rfl rfl [(0, .slice (some ⟨g154, 0, none⟩) x121.toNat k0)] (fun ac hA => y_move hA rfl rfl) rfl rfl, pu rfl rfl [(1, .int .i64 a1)] (fun ac hA => y_move hA rfl rfl) rfl rfl, pu rfl rfl [(74, .slice (some ⟨g154, 0, none⟩) x121.toNat k0), (75, .int .i64 a1)] (fun ac hA => (r_row_l (lo := 0) Try.underlying66 sz73 rfl (hA.ev rfl) (hA.ev rfl) h165 : RunV _ _ _ _ (.slice (some ⟨g154, (0 + a1.toNat) * 3, none⟩) (x121.toNat - a1.toNat) (k0 - a1.toNat)))) rfl rfl, trivial⟩ (by kernel_rfl) (by kernel_rfl) ⟨ef rfl [(73, .slice (some ⟨g154, (0 + x159.toNat) * 3, none⟩) (x121.toNat - x159.toNat) (k0 - x159.toNat)), (76, .slice (some ⟨g154, (0 + a1.toNat) * 3, none⟩) (x121.toNat - a1.toNat) (k0 - a1.toNat))] (fun ac hA K hK => ?_) rfl rfl, trivial⟩
  obtain ⟨l166, h167, hF⟩ := bnd hF
  obtain ⟨h168, hF⟩ := chk_some hF
  refine z_cpR (lo := (0 + x159.toNat)) (zs := l166) 0 Try.underlying66 sz73 hA hS (row_rd (lo := (0 + a1.toNat)) hS 0 rfl (rdo_some h167).2.1) (rdo_some h167).1 h168 rfl (fun v169 w hS => ?_) rfl rfl rfl
  obtain ⟨q170, h171, hF⟩ := ltt_ hF
  rw [← h171] at hS
  refine hK _ [] _ rfl ?_
  refine dEnd [] (by kernel_rfl) trivial ⟨by kernel_rfl, by kernel_rfl⟩ [(0, .slice (some ⟨g154, 0, none⟩) x121.toNat k0), (1, .int .i64 a1), (2, .slice A2 a2.length c2)] rfl (fun ac hA => ?_)
  refine hK163 _ _ ?_
  refine wp_seq_k fun K172 hK172 => ?_
  refine wp_reg ?_
  refine x_move hA (fun ac hA => ?_) rfl rfl rfl rfl rfl
  refine x_move hA (fun ac hA => ?_) rfl rfl rfl rfl rfl
  obtain ⟨h173, hF⟩ := chk_some hF
  refine x_val (v := .slice (some ⟨g154, (0 + a1.toNat) * 3, none⟩) (x121.toNat - a1.toNat) (k0 - a1.toNat)) hA (r_row_l (lo := 0) Try.underlying66 sz73 rfl (hA.ev rfl) (hA.ev rfl) h173) (fun ac hA => ?_) rfl rfl rfl
  refine x_move hA (fun ac hA => ?_) rfl rfl rfl rfl rfl
  obtain ⟨h174, hF⟩ := chk_some hF
  refine x_cpR (lo := (0 + a1.toNat)) (zs := a2.take (min a2.length (x121.toNat - a1.toNat))) 0 Try.underlying66 sz73 hA hS (Rd.take_ (hS.rd 1 rfl).1 _) (cpk (hS.rd 1 rfl).2.1 rfl) h174 rfl (fun v175 ac w hS hA => ?_) rfl rfl rfl rfl rfl rfl
  obtain ⟨q176, h177, hF⟩ := ltt_ hF
  rw [← h177] at hS
  refine wpList_nil ?_
  refine hK172 _ _ ?_
  refine wp_seq_k fun K178 hK178 => ?_
  refine wp_reg ?_
  refine x_move hA (fun ac hA => ?_) rfl rfl rfl rfl rfl
  refine x_assign hA (fun ac hA => ?_) rfl rfl rfl rfl rfl
  refine wpList_nil ?_
  refine hK178 _ _ ?_
  refine wp_ret ?_
  obtain ⟨l179, h180, hF⟩ := bnd hF
  replace hS := rdo_own hS h180
  replace hS := hS.drop 1
  cases hF
  refine hQ _ _ ?_
  refine lv Try.results38 hA rfl ?_
  exact ⟨some ⟨g154, 0, none⟩, x121.toNat, k0, rfl, hS⟩

set_option maxHeartbeats 4000000 in
theorem F_slices_Delete_files_file_files_file {r : World} {L : List HP} {w : World} (a0 : (List (S73 × Hd))) (k0 : Nat) (a1 : Int) (a2 : Int) (A0 : Option Addr) (n0 : Nat) {y : ((List (S73 × Hd)))} (hF : slices_Delete_files_file_files_file a0 k0 a1 a2 = some y) (hS : SH r (own kp73 73 A0 n0 k0 a0 :: L) w) :
    Ret Try.prog 42 #[.slice A0 n0 k0, .int .i64 a1, .int .i64 a2] w fun v w' => ∃ (B0 : Option Addr) (m0 : Nat) (d0 : Nat), v = .slice B0 m0 d0 ∧ SH r (own kp73 73 B0 m0 d0 y :: L) w' := by
  refine enter Try.func42 rfl Try.ntmps42 [(0, .slice A0 n0 k0), (1, .int .i64 a1), (2, .int .i64 a2)] rfl (by simp) ?_
  intro ac hA Qf hQ hQn
  unfold slices_Delete_files_file_files_file at hF
  obtain rfl := (hS.rd 0 rfl).2.1
  refine wp_seq_k fun K101 hK101 => ?_
  refine wp_reg ?_
  refine x_assign hA (fun ac hA => ?_) rfl rfl rfl rfl rfl
  refine wpList_nil ?_
  refine hK101 _ _ ?_
  refine wp_seq_k fun K102 hK102 => ?_
  refine wp_reg ?_
  refine x_move hA (fun ac hA => ?_) rfl rfl rfl rfl rfl
  refine x_move hA (fun ac hA => ?_) rfl rfl rfl rfl rfl
  refine x_move hA (fun ac hA => ?_) rfl rfl rfl rfl rfl
  refine x_move hA (fun ac hA => ?_) rfl rfl rfl rfl rfl
  refine x_len Try.underlying66 (hS.rd 0 rfl).2.1 hA (fun ac hA => ?_) rfl rfl rfl rfl rfl
  obtain ⟨h103, hF⟩ := chk_some hF
  refine x_val hA (r_slice_lhm Try.underlying66 sz73 rfl (hA.ev rfl) (hA.ev rfl) (hA.ev rfl) (hA.ev rfl) ⟨h103.1, h103.2.1, h103.2.2.1, by have := (hS.rd 0 rfl).2; omega⟩) (fun ac hA => ?_) rfl rfl rfl
  refine wpList_nil ?_
  refine hK102 _ _ ?_
  refine wp_seq_k fun K104 hK104 => ?_
  refine wp_seq_k fun K105 hK105 => ?_
  refine wp_reg ?_
  refine x_move hA (fun ac hA => ?_) rfl rfl rfl rfl rfl
  refine x_move hA (fun ac hA => ?_) rfl rfl rfl rfl rfl
  refine x_val hA (r_eqI rfl (hA.ev rfl) (hA.ev rfl)) (fun ac hA => ?_) rfl rfl rfl
  refine wpList_nil ?_
  refine hK105 _ _ ?_
  refine c_if hA rfl (fun hb106 => ?_) fun hb106 => ?_
  · replace hF := ift hb106 hF
    refine wp_seq_k fun K107 hK107 => ?_
    refine wp_reg ?_
    refine x_move hA (fun ac hA => ?_) rfl rfl rfl rfl rfl
    refine x_assign hA (fun ac hA => ?_) rfl rfl rfl rfl rfl
    refine wpList_nil ?_
    refine hK107 _ _ ?_
    refine wp_ret ?_
    cases hF
    refine hQ _ _ ?_
    refine lv Try.results42 hA rfl ?_
    exact ⟨A0, a0.length, k0, rfl, hS⟩
  replace hF := iff' hb106 hF
  refine wp_skip ?_
  refine hK104 _ _ ?_
  refine wp_seq_k fun K108 hK108 => ?_
  refine wp_reg ?_
  refine x_move hA (fun ac hA => ?_) rfl rfl rfl rfl rfl
  refine x_len Try.underlying66 (hS.rd 0 rfl).2.1 hA (fun ac hA => ?_) rfl rfl rfl rfl rfl
  refine x_assign hA (fun ac hA => ?_) rfl rfl rfl rfl rfl
  refine wpList_nil ?_
  refine hK108 _ _ ?_
  refine wp_seq_k fun K109 hK109 => ?_
  obtain ⟨h111, hF⟩ := chk_some hF
  have hQ0 := own_row' h111 hS
  clear hS
  obtain ⟨g110, rfl, hS⟩ := hQ0
  refine wp_draw [0, 0, 3, 0, 0, 24, 63, 127] [6] rfl hA hS (by kernel_rfl) (by kernel_rfl) (by kernel_rfl) (by kernel_rfl) fun w hS => ?_
  obtain ⟨h112, hF⟩ := chk_some hF
  obtain ⟨h113, hF⟩ := chk_some hF
  refine ⟨[(0, .slice (some ⟨g110, 0, none⟩) a0.length k0), (1, .int .i64 a1), (2, .slice (some ⟨g110, 0, none⟩) a1.toNat k0), (3, .slice (some ⟨g110, 0, none⟩) a0.length k0), (4, .int .i64 a2), (5, .slice (if k0 = a2.toNat then (some ⟨g110, 0, none⟩) else (some (⟨g110, 0, none⟩ : Addr)).map (·.add (a2.toNat * 3))) (a0.length - a2.toNat) (k0 - a2.toNat))], ?_⟩
  refine dEff [0, 1, 2, 3, 4, 5] [6] (by kernel_rfl) ⟨pu rfl rfl [(0, .slice (some ⟨g110, 0, none⟩) a0.length k0)] (fun ac hA => y_move hA rfl rfl) rfl rfl, pu rfl rfl [(1, .int .i64 a1)] (fun ac hA => y_move hA rfl rfl) rfl rfl, pu rfl rfl [(20, .slice (some ⟨g110, 0, none⟩) a0.length k0), (21, .int .i64 a1)] (fun ac hA => r_slice_h Try.underlying66 sz73 rfl (hA.ev rfl) (hA.ev rfl) h112.1 h112.2) rfl rfl, pu rfl rfl [(0, .slice (some ⟨g110, 0, none⟩) a0.length k0)] (fun ac hA => y_move hA rfl rfl) rfl rfl, pu rfl rfl [(2, .int .i64 a2)] (fun ac hA => y_move hA rfl rfl) rfl rfl, pu rfl rfl [(23, .slice (some ⟨g110, 0, none⟩) a0.length k0), (24, .int .i64 a2)] (fun ac hA => r_slice_l Try.underlying66 sz73 rfl (hA.ev rfl) (hA.ev rfl) h113.1 h113.2.1) rfl rfl, trivial⟩ (by kernel_rfl) (by kernel_rfl) ⟨ef rfl [(22, .slice (some ⟨g110, 0, none⟩) a1.toNat k0), (25, .slice (if k0 = a2.toNat then (some ⟨g110, 0, none⟩) else (some (⟨g110, 0, none⟩ : Addr)).map (·.add (a2.toNat * 3))) (a0.length - a2.toNat) (k0 - a2.toNat))] (fun ac hA K hK => ?_) rfl rfl, trivial⟩
  obtain ⟨l114, h115, hF⟩ := bnd hF
  obtain ⟨h116, hF⟩ := chk_some hF
  refine z_apR 0 Try.underlying66 sz73 hA hS (row_rde (lo := 0) (L0 := a2.toNat) (m := a0.length) hS 0 rfl h115 ⟨rfl, h113.2.2⟩) (rdo_some h115).1 h116 rfl (fun  w hS => ?_) rfl rfl rfl
  obtain ⟨q117, h118, hF⟩ := ltt_ hF
  rw [← h118] at hS
  refine hK _ [(7, .slice (some ⟨g110, 0, none⟩) (a1.toNat + (a0.length - a2.toNat)) k0)] _ rfl ?_
  refine dEnd [7] (by kernel_rfl) ⟨pu rfl rfl [(26, .slice (some ⟨g110, 0, none⟩) (a1.toNat + (a0.length - a2.toNat)) k0)] (fun ac hA => y_assign hA rfl rfl) rfl rfl, trivial⟩ ⟨by kernel_rfl, by kernel_rfl⟩ [(0, .slice (some ⟨g110, 0, none⟩) (a1.toNat + (a0.length - a2.toNat)) k0), (7, .int .i64 (a0.length : Int))] rfl (fun ac hA => ?_)
  refine hK109 _ _ ?_
  refine wp_seq_k fun K119 hK119 => ?_
  refine wp_reg ?_
  refine x_move hA (fun ac hA => ?_) rfl rfl rfl rfl rfl
  refine x_move hA (fun ac hA => ?_) rfl rfl rfl rfl rfl
  refine x_val hA (r_len Try.underlying66 rfl (hA.ev rfl)) (fun ac hA => ?_) rfl rfl rfl
  refine x_move hA (fun ac hA => ?_) rfl rfl rfl rfl rfl
  obtain ⟨h120, hF⟩ := chk_some hF
  refine x_val (v := .slice (some ⟨g110, (0 + (((a1.toNat + (a0.length - a2.toNat)) : Nat) : Int).toNat) * 3, none⟩) ((a0.length : Int).toNat - (((a1.toNat + (a0.length - a2.toNat)) : Nat) : Int).toNat) (k0 - (((a1.toNat + (a0.length - a2.toNat)) : Nat) : Int).toNat)) hA (r_row_lh (lo := 0) Try.underlying66 sz73 rfl (hA.ev rfl) (hA.ev rfl) (hA.ev rfl) h120) (fun ac hA => ?_) rfl rfl rfl
  obtain ⟨h121, hF⟩ := chk_some hF
  refine x_clR0 (lo := (0 + (((a1.toNat + (a0.length - a2.toNat)) : Nat) : Int).toNat)) (z0 := (((⟨[], [], 0⟩ : S73), none, 0, 0) : S73 × Hd)) 0 Try.underlying66 zr73 rfl hA hS h121 rfl (fun ac w hS hA => ?_) rfl rfl rfl rfl
  obtain ⟨q122, h123, hF⟩ := ltt_ hF
  rw [← h123] at hS
  refine wpList_nil ?_
  refine hK119 _ _ ?_
  refine wp_seq_k fun K124 hK124 => ?_
  refine wp_reg ?_
  refine x_move hA (fun ac hA => ?_) rfl rfl rfl rfl rfl
  refine x_assign hA (fun ac hA => ?_) rfl rfl rfl rfl rfl
  refine wpList_nil ?_
  refine hK124 _ _ ?_
  refine wp_ret ?_
  obtain ⟨l125, h126, hF⟩ := bnd hF
  replace hS := rdo_own hS h126
  cases hF
  refine hQ _ _ ?_
  refine lv Try.results42 hA rfl ?_
  exact ⟨some ⟨g110, 0, none⟩, a1.toNat + (a0.length - a2.toNat), k0, rfl, hS⟩
end Go.Proofs.Ytgjhiojkkjaloaa.M
