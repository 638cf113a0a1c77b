/- Texts of the claim, joined: what it uses of Mfa, Ha, Dfb, Mfb, Dfd, Mfd, Dfe. -/
import Derived.Test.YtffdckhgkhhbjaaGreatDoorZc
namespace Go.Proofs.YtffdckhgkhhbjaaGreatDoor.M
open Go Go.RowKit Go.Proofs.YtffdckhgkhhbjaaGreatDoor.E
set_option linter.unusedVariables false
set_option maxRecDepth 100000
set_option maxHeartbeats 4000000
set_option linter.unusedSimpArgs false
theorem F_slices_Insert_files_file_files_file {r : World} {L : List HP} {w : World} (a0 : (List (S72 × Hd))) (k0 : Nat) (a1 : Int) (a2 : (List (S72 × Hd))) (A0 : Option Addr) (n0 : Nat) (A2 : Option Addr) (n2 : Nat) (c2 : Nat) {y : ((List (S72 × Hd)))} (G : slices_Insert_files_file_files_file a0 k0 a1 a2 = some y) (X : SH r (own kp72 72 A0 n0 k0 a0 :: own kp72 72 A2 n2 c2 a2 :: L) w) :
  Ret Tryz.prog 24 #[.slice A0 n0 k0, .int .i64 a1, .slice A2 n2 c2] w fun v w' => ∃ (B0 : Option Addr) (m0 : Nat) (d0 : Nat), v = .slice B0 m0 d0 ∧ SH r (own kp72 72 B0 m0 d0 y :: L) w' := by
 refine enter Tryz.func24 rfl Tryz.ntmps24 [(0, .slice A0 n0 k0), (1, .int .i64 a1), (2, .slice A2 n2 c2)] rfl (by simp) ?_
 intro U J Qf hQ hQn
 unfold slices_Insert_files_file_files_file at G
 obtain rfl := (X.rd 0 rfl).2.1
 obtain rfl := (X.rd 1 rfl).2.1
 refine ws fun K100 hK100 => ?_
 refine x_m J rfl fun U J => ?_
 refine wn (hK100 _ _ ?_)
 refine ws fun K101 hK101 => ?_
 refine x_m J rfl fun U J => ?_
 refine x_m J rfl fun U J => ?_
 obtain ⟨l102, h103, G⟩ := bnd G
 refine x_v J (r_slice_l uu64 sz72 rfl (J.ev rfl) (J.ev rfl) (cutq (X.rd 0 rfl) h103).1 (cutq (X.rd 0 rfl) h103).2.2.2.2.2) rfl fun U J => ?_
 refine wn (hK101 _ _ ?_)
 refine ws fun K104 hK104 => ?_
 refine x_m J rfl fun U J => ?_
 refine x_len' uu64 (X.rd 1 rfl).2.1 J (fun U J => ?_) rfl
 refine x_m J rfl fun U J => ?_
 refine wn (hK104 _ _ ?_)
 refine wp_seq_k fun K105 hK105 => ?_
 refine ws fun K106 hK106 => ?_
 refine x_m J rfl fun U J => ?_
 refine x_v J (r_eqI rfl (J.ev rfl) (J.ev rfl)) rfl fun U J => ?_
 refine wn (hK106 _ _ ?_)
 refine c_if J rfl (fun hb107 => ?_) fun hb107 => ?_
 ·replace G := ift hb107 G
  refine ws fun K108 hK108 => ?_
  refine x_m J rfl fun U J => ?_
  refine x_m J rfl fun U J => ?_
  refine wn (hK108 _ _ ?_)
  refine wp_ret ?_
  replace X := X.drop 1
  cases G
  refine hQ _ _ ?_
  refine lv Tryz.results24 J rfl ?_
  exact ⟨A0, a0.length, k0, rfl, X⟩
 replace G := iff' hb107 G
 refine wp_skip ?_
 refine hK105 _ _ ?_
 refine ws fun K109 hK109 => ?_
 refine x_m J rfl fun U J => ?_
 refine x_len' uu64 (X.rd 0 rfl).2.1 J (fun U J => ?_) rfl
 refine x_m J rfl fun U J => ?_
 refine wn (hK109 _ _ ?_)
 refine wp_seq_k fun K110 hK110 => ?_
 refine ws fun K111 hK111 => ?_
 refine x_m J rfl fun U J => ?_
 refine x_m J rfl fun U J => ?_
 refine x_v J (r_eqI rfl (J.ev rfl) (J.ev rfl)) rfl fun U J => ?_
 refine wn (hK111 _ _ ?_)
 refine c_if J rfl (fun hb112 => ?_) fun hb112 => ?_
 ·replace G := ift hb112 G
  refine ws fun K113 hK113 => ?_
  refine x_m J rfl fun U J => ?_
  refine x_m J rfl fun U J => ?_
  obtain ⟨h114, G⟩ := chk_some G
  have hr := X.rd 1 rfl
  refine x_app' 0 inf72 uu64 J X hr.1 hr.2.1 h114 rfl (fun A115 n116 c117 U w X J => ?_) rfl
  refine x_m J rfl fun U J => ?_
  refine wn (hK113 _ _ ?_)
  refine wp_ret ?_
  replace X := X.drop 1
  cases G
  refine hQ _ _ ?_
  refine lv Tryz.results24 J rfl ?_
  exact ⟨A115, n116, c117, rfl, X⟩
 replace G := iff' hb112 G
 refine wp_skip ?_
 refine hK110 _ _ ?_
 refine wp_seq_k fun K118 hK118 => ?_
 refine ws fun K119 hK119 => ?_
 refine x_m J rfl fun U J => ?_
 refine x_m J rfl fun U J => ?_
 obtain ⟨x120, h121, G⟩ := ltt_ G
 refine x_v (v := .int .i64 x120) J (rv_i h121 (r_add rfl (J.ev rfl) (J.ev rfl))) rfl fun U J => ?_
 refine x_m J rfl fun U J => ?_
 refine x_v J (r_cap uu64 rfl (J.ev rfl)) rfl fun U J => ?_
 refine x_v J (r_gtI rfl (J.ev rfl) (J.ev rfl)) rfl fun U J => ?_
 refine wn (hK119 _ _ ?_)
 refine c_if J rfl (fun hb122 => ?_) fun hb122 => ?_
 ·replace G := ift hb122 G
  refine ws fun K123 hK123 => ?_
  refine x_m J rfl fun U J => ?_
  refine x_m J rfl fun U J => ?_
  obtain ⟨l124, h125, G⟩ := bnd G
  refine x_v J (r_slice_h uu64 sz72 rfl (J.ev rfl) (J.ev rfl) (cutq (X.rd 0 rfl) h125).2.2.2.2.1 (cutq (X.rd 0 rfl) h125).2.2.1) rfl fun U J => ?_
  refine x_m J rfl fun U J => ?_
  refine x_m J rfl fun U J => ?_
  refine x_v (v := .int .i64 x120) J (rv_i h121 (r_add rfl (J.ev rfl) (J.ev rfl))) rfl fun U J => ?_
  refine x_m J rfl fun U J => ?_
  obtain ⟨x126, h127, G⟩ := ltt_ G
  refine x_v (v := .int .i64 x126) J (rv_i h127 (r_sub rfl (J.ev rfl) (J.ev rfl))) rfl fun U J => ?_
  obtain ⟨h128, G⟩ := chk_some G
  refine x_apZ' (((⟨[], [], 0⟩ : S72), none, 0, 0) : S72 × Hd) uu64 uu3 inf72 rfl J X (rq_h (X.rd 0 rfl) h125).1 (rq_h (X.rd 0 rfl) h125).2.1 h128 (fun g129 c130 U w X J => ?_) rfl
  obtain ⟨q131, h132, G⟩ := ltt_ G
  rw [← h132] at X
  refine x_m J rfl fun U J => ?_
  refine wn (hK123 _ _ ?_)
  refine ws fun K133 hK133 => ?_
  refine x_m J rfl fun U J => ?_
  refine x_m J rfl fun U J => ?_
  obtain ⟨h134, G⟩ := chk_some G
  have h135 := X.rd 0 rfl
  refine x_v (v := .slice (some ⟨g129, (0 + a1.toNat) * 3, none⟩) ((a1.toNat + x126.toNat) - a1.toNat) (c130 - a1.toNat)) J (r_row_l (lo := 0) uu64 sz72 rfl (J.ev rfl) (J.ev rfl) ⟨h134.1, by have := h135.2.1; omega, h135.2.2.1⟩) rfl fun U J => ?_
  refine x_m J rfl fun U J => ?_
  obtain ⟨h136, G⟩ := chk_some G
  refine x_cpO' (lo := (0 + a1.toNat)) (zs := a2.take (min a2.length (q131.length - a1.toNat))) 0 uu64 sz72 J X (Rd.take_ (X.rd 2 rfl).1 _) (cpk (X.rd 2 rfl).2.1 (by have := h135.2.1; omega)) h136 rfl (fun v137 U w X J => ?_) rfl
  obtain ⟨q138, h139, G⟩ := ltt_ G
  rw [← h139] at X
  refine wn (hK133 _ _ ?_)
  refine wp_seq_k fun K140 hK140 => ?_
  refine wp_draw [0, 0, 0, 6, 15, 0, 0, 96, 255] [8] rfl J X (by kernel_rfl) (by kernel_rfl) (by kernel_rfl) (by kernel_rfl) fun w X => ?_
  obtain ⟨x141, h142, G⟩ := ltt_ G
  obtain ⟨h143, G⟩ := chk_some G
  have h144 := X.rd 0 rfl
  refine ⟨[(0, .slice (some ⟨g129, 0, none⟩) (a1.toNat + x126.toNat) c130), (1, .int .i64 a1), (2, .int .i64 (a2.length : Int)), (3, .int .i64 x141), (4, .slice (some ⟨g129, (0 + x141.toNat) * 3, none⟩) ((a1.toNat + x126.toNat) - x141.toNat) (c130 - x141.toNat)), (5, .slice A0 a0.length k0), (6, .int .i64 a1), (7, .slice (if k0 = a1.toNat then A0 else A0.map (·.add (a1.toNat * 3))) (a0.length - a1.toNat) (k0 - a1.toNat))], ?_⟩
  refine dF [0, 1, 2, 3, 4, 5, 6, 7] [8] (by kernel_rfl) ⟨pm rfl, pm rfl, pm rfl, pt [(47, .int .i64 a1), (48, .int .i64 (a2.length : Int))] rfl (fun U J => (rv_i h142 (r_add rfl (J.ev rfl) (J.ev rfl)) : RunV _ _ _ _ (.int .i64 x141))), pt [(46, .slice (some ⟨g129, 0, none⟩) (a1.toNat + x126.toNat) c130), (49, .int .i64 x141)] rfl (fun U J => (r_row_l (lo := 0) uu64 sz72 rfl (J.ev rfl) (J.ev rfl) ⟨h143.1, by have := h144.2.1; omega, h144.2.2.1⟩ : RunV _ _ _ _ (.slice (some ⟨g129, (0 + x141.toNat) * 3, none⟩) ((a1.toNat + x126.toNat) - x141.toNat) (c130 - x141.toNat)))), pm rfl, pm rfl, pt [(51, .slice A0 a0.length k0), (52, .int .i64 a1)] rfl (fun U J => r_slice_l uu64 sz72 rfl (J.ev rfl) (J.ev rfl) (cutq (X.rd 1 rfl) h103).1 (cutq (X.rd 1 rfl) h103).2.2.2.2.2), trivial⟩ ⟨et [(50, .slice (some ⟨g129, (0 + x141.toNat) * 3, none⟩) ((a1.toNat + x126.toNat) - x141.toNat) (c130 - x141.toNat)), (53, .slice (if k0 = a1.toNat then A0 else A0.map (·.add (a1.toNat * 3))) (a0.length - a1.toNat) (k0 - a1.toNat))] rfl (fun U J K hK => ?_), trivial⟩
  obtain ⟨h145, G⟩ := chk_some G
  refine z_cpO' (lo := (0 + x141.toNat)) (zs := l102.take (min l102.length (q138.length - x141.toNat))) 0 uu64 sz72 J X (Rd.take_ (rq_l (X.rd 1 rfl) h103).1 _) (cpk (rq_l (X.rd 1 rfl) h103).2.1 (by have := h144.2.1; omega)) h145 rfl (fun v146 w X => ?_) rfl
  obtain ⟨q147, h148, G⟩ := ltt_ G
  rw [← h148] at X
  refine hK _ [] _ rfl ?_
  refine dEnd [] (by kernel_rfl) trivial ⟨by kernel_rfl, by kernel_rfl⟩ [(9, .slice (some ⟨g129, 0, none⟩) (a1.toNat + x126.toNat) c130)] rfl (fun U J => ?_)
  refine hK140 _ _ ?_
  refine ws fun K149 hK149 => ?_
  refine x_m J rfl fun U J => ?_
  refine x_m J rfl fun U J => ?_
  refine wn (hK149 _ _ ?_)
  refine wp_ret ?_
  replace X := X.drop 1 |>.drop 1
  cases G
  refine hQ _ _ ?_
  refine lv Tryz.results24 J rfl ?_
  exact ⟨some ⟨g129, 0, none⟩, a1.toNat + x126.toNat, c130, rfl, X⟩
 replace G := iff' hb122 G
 refine wp_skip ?_
 refine hK118 _ _ ?_
 refine wp_seq_k fun K150 hK150 => ?_
 obtain ⟨h151, G⟩ := chk_some G
 have hQ0 := own_row' h151 X
 clear X
 obtain ⟨g152, rfl, X⟩ := hQ0
 refine wp_reg ?_
 refine x_m J rfl fun U J => ?_
 refine x_m J rfl fun U J => ?_
 refine x_m J rfl fun U J => ?_
 refine x_v (v := .int .i64 x120) J (rv_i h121 (r_add rfl (J.ev rfl) (J.ev rfl))) rfl fun U J => ?_
 obtain ⟨h153, G⟩ := chk_some G
 refine x_v J (r_slice_h uu64 sz72 rfl (J.ev rfl) (J.ev rfl) h153.1 h153.2) rfl fun U J => ?_
 refine x_m J rfl fun U J => ?_
 refine wn (hK150 _ _ ?_)
 refine wp_seq_k fun K154 hK154 => ?_
 refine ws fun K155 hK155 => ?_
 refine x_m J rfl fun U J => ?_
 refine x_m J rfl fun U J => ?_
 refine x_m J rfl fun U J => ?_
 refine x_m J rfl fun U J => ?_
 obtain ⟨x156, h157, G⟩ := ltt_ G
 refine x_v (v := .int .i64 x156) J (rv_i h157 (r_add rfl (J.ev rfl) (J.ev rfl))) rfl fun U J => ?_
 obtain ⟨h158, G⟩ := chk_some G
 refine x_v (v := .slice (some ⟨g152, (0 + x156.toNat) * 3, none⟩) (x120.toNat - x156.toNat) (k0 - x156.toNat)) J (r_row_l (lo := 0) uu64 sz72 rfl (J.ev rfl) (J.ev rfl) h158) rfl fun U J => ?_
 obtain ⟨h159, G⟩ := chk_some G
 refine x_v (v := .bool false) J (r_extw (ovl39 (ov_apart uu64 sz72 X 1 0 rfl rfl (by decide) h159)) rfl (evs J rfl)) rfl fun U J => ?_
 refine x_v J (r_not rfl (J.ev rfl)) rfl fun U J => ?_
 refine wn (hK155 _ _ ?_)
 refine c_t (b := true) rfl J ?_ rfl
 refine wp_seq_k fun K160 hK160 => ?_
 refine wp_draw [0, 0, 0, 6, 15, 0, 0, 96, 255] [8] rfl J X (by kernel_rfl) (by kernel_rfl) (by kernel_rfl) (by kernel_rfl) fun w X => ?_
 obtain ⟨h161, G⟩ := chk_some G
 obtain ⟨h162, G⟩ := chk_some G
 refine ⟨[(0, .slice (some ⟨g152, 0, none⟩) x120.toNat k0), (1, .int .i64 a1), (2, .int .i64 (a2.length : Int)), (3, .int .i64 x156), (4, .slice (some ⟨g152, (0 + x156.toNat) * 3, none⟩) (x120.toNat - x156.toNat) (k0 - x156.toNat)), (5, .slice (some ⟨g152, 0, none⟩) x120.toNat k0), (6, .int .i64 a1), (7, .slice (some ⟨g152, (0 + a1.toNat) * 3, none⟩) (x120.toNat - a1.toNat) (k0 - a1.toNat))], ?_⟩
 refine dF [0, 1, 2, 3, 4, 5, 6, 7] [8] (by kernel_rfl) ⟨pm rfl, pm rfl, pm rfl, pt [(70, .int .i64 a1), (71, .int .i64 (a2.length : Int))] rfl (fun U J => (rv_i h157 (r_add rfl (J.ev rfl) (J.ev rfl)) : RunV _ _ _ _ (.int .i64 x156))), pt [(69, .slice (some ⟨g152, 0, none⟩) x120.toNat k0), (72, .int .i64 x156)] rfl (fun U J => (r_row_l (lo := 0) uu64 sz72 rfl (J.ev rfl) (J.ev rfl) h161 : RunV _ _ _ _ (.slice (some ⟨g152, (0 + x156.toNat) * 3, none⟩) (x120.toNat - x156.toNat) (k0 - x156.toNat)))), pm rfl, pm rfl, pt [(74, .slice (some ⟨g152, 0, none⟩) x120.toNat k0), (75, .int .i64 a1)] rfl (fun U J => (r_row_l (lo := 0) uu64 sz72 rfl (J.ev rfl) (J.ev rfl) h162 : RunV _ _ _ _ (.slice (some ⟨g152, (0 + a1.toNat) * 3, none⟩) (x120.toNat - a1.toNat) (k0 - a1.toNat)))), trivial⟩ ⟨et [(73, .slice (some ⟨g152, (0 + x156.toNat) * 3, none⟩) (x120.toNat - x156.toNat) (k0 - x156.toNat)), (76, .slice (some ⟨g152, (0 + a1.toNat) * 3, none⟩) (x120.toNat - a1.toNat) (k0 - a1.toNat))] rfl (fun U J K hK => ?_), trivial⟩
 obtain ⟨l163, h164, G⟩ := bnd G
 obtain ⟨h165, G⟩ := chk_some G
 refine z_cpR' (lo := (0 + x156.toNat)) (zs := l163) 0 uu64 sz72 J X (row_rd (lo := (0 + a1.toNat)) X 0 rfl (rdo_some h164).2.1) (rdo_some h164).1 h165 rfl (fun v166 w X => ?_) rfl
 obtain ⟨q167, h168, G⟩ := ltt_ G
 rw [← h168] at X
 refine hK _ [] _ rfl ?_
 refine dEnd [] (by kernel_rfl) trivial ⟨by kernel_rfl, by kernel_rfl⟩ [(0, .slice (some ⟨g152, 0, none⟩) x120.toNat k0), (1, .int .i64 a1), (2, .slice A2 a2.length c2)] rfl (fun U J => ?_)
 refine hK160 _ _ ?_
 refine ws fun K169 hK169 => ?_
 refine x_m J rfl fun U J => ?_
 refine x_m J rfl fun U J => ?_
 obtain ⟨h170, G⟩ := chk_some G
 refine x_v (v := .slice (some ⟨g152, (0 + a1.toNat) * 3, none⟩) (x120.toNat - a1.toNat) (k0 - a1.toNat)) J (r_row_l (lo := 0) uu64 sz72 rfl (J.ev rfl) (J.ev rfl) h170) rfl fun U J => ?_
 refine x_m J rfl fun U J => ?_
 obtain ⟨h171, G⟩ := chk_some G
 refine x_cpR' (lo := (0 + a1.toNat)) (zs := a2.take (min a2.length (x120.toNat - a1.toNat))) 0 uu64 sz72 J X (Rd.take_ (X.rd 1 rfl).1 _) (cpk (X.rd 1 rfl).2.1 rfl) h171 rfl (fun v172 U w X J => ?_) rfl
 obtain ⟨q173, h174, G⟩ := ltt_ G
 rw [← h174] at X
 refine wn (hK169 _ _ ?_)
 refine ws fun K175 hK175 => ?_
 refine x_m J rfl fun U J => ?_
 refine x_m J rfl fun U J => ?_
 refine wn (hK175 _ _ ?_)
 refine wp_ret ?_
 obtain ⟨l176, h177, G⟩ := bnd G
 replace X := rdo_own X h177
 replace X := X.drop 1
 cases G
 refine hQ _ _ ?_
 refine lv Tryz.results24 J rfl ?_
 exact ⟨some ⟨g152, 0, none⟩, x120.toNat, k0, rfl, X⟩
theorem F_slices_Delete_files_file_files_file {r : World} {L : List HP} {w : World} (a0 : (List (S72 × Hd))) (k0 : Nat) (a1 : Int) (a2 : Int) (A0 : Option Addr) (n0 : Nat) {y : ((List (S72 × Hd)))} (G : slices_Delete_files_file_files_file a0 k0 a1 a2 = some y) (X : SH r (own kp72 72 A0 n0 k0 a0 :: L) w) :
  Ret Tryz.prog 34 #[.slice A0 n0 k0, .int .i64 a1, .int .i64 a2] w fun v w' => ∃ (B0 : Option Addr) (m0 : Nat) (d0 : Nat), v = .slice B0 m0 d0 ∧ SH r (own kp72 72 B0 m0 d0 y :: L) w' := by
 refine enter Tryz.func34 rfl Tryz.ntmps34 [(0, .slice A0 n0 k0), (1, .int .i64 a1), (2, .int .i64 a2)] rfl (by simp) ?_
 intro U J Qf hQ hQn
 unfold slices_Delete_files_file_files_file at G
 obtain rfl := (X.rd 0 rfl).2.1
 refine ws fun K100 hK100 => ?_
 refine x_m J rfl fun U J => ?_
 refine wn (hK100 _ _ ?_)
 refine ws fun K101 hK101 => ?_
 refine x_m J rfl fun U J => ?_
 refine x_m J rfl fun U J => ?_
 refine x_m J rfl fun U J => ?_
 refine x_m J rfl fun U J => ?_
 refine x_len' uu64 (X.rd 0 rfl).2.1 J (fun U J => ?_) rfl
 obtain ⟨h102, G⟩ := chk_some G
 refine x_v J (r_slice_lhm uu64 sz72 rfl (J.ev rfl) (J.ev rfl) (J.ev rfl) (J.ev rfl) ⟨h102.1, h102.2.1, h102.2.2.1, by have := (X.rd 0 rfl).2; omega⟩) rfl fun U J => ?_
 refine wn (hK101 _ _ ?_)
 refine wp_seq_k fun K103 hK103 => ?_
 refine ws fun K104 hK104 => ?_
 refine x_m J rfl fun U J => ?_
 refine x_m J rfl fun U J => ?_
 refine x_v J (r_eqI rfl (J.ev rfl) (J.ev rfl)) rfl fun U J => ?_
 refine wn (hK104 _ _ ?_)
 refine c_if J rfl (fun hb105 => ?_) fun hb105 => ?_
 ·replace G := ift hb105 G
  refine ws fun K106 hK106 => ?_
  refine x_m J rfl fun U J => ?_
  refine x_m J rfl fun U J => ?_
  refine wn (hK106 _ _ ?_)
  refine wp_ret ?_
  cases G
  refine hQ _ _ ?_
  refine lv Tryz.results34 J rfl ?_
  exact ⟨A0, a0.length, k0, rfl, X⟩
 replace G := iff' hb105 G
 refine wp_skip ?_
 refine hK103 _ _ ?_
 refine ws fun K107 hK107 => ?_
 refine x_m J rfl fun U J => ?_
 refine x_len' uu64 (X.rd 0 rfl).2.1 J (fun U J => ?_) rfl
 refine x_m J rfl fun U J => ?_
 refine wn (hK107 _ _ ?_)
 refine wp_seq_k fun K108 hK108 => ?_
 obtain ⟨h109, G⟩ := chk_some G
 have hQ0 := own_row' h109 X
 clear X
 obtain ⟨g110, rfl, X⟩ := hQ0
 refine wp_draw [0, 0, 3, 0, 0, 24, 63, 127] [6] rfl J X (by kernel_rfl) (by kernel_rfl) (by kernel_rfl) (by kernel_rfl) fun w X => ?_
 obtain ⟨h111, G⟩ := chk_some G
 obtain ⟨h112, G⟩ := chk_some G
 refine ⟨[(0, .slice (some ⟨g110, 0, none⟩) a0.length k0), (1, .int .i64 a1), (2, .slice (some ⟨g110, 0, none⟩) a1.toNat k0), (3, .slice (some ⟨g110, 0, none⟩) a0.length k0), (4, .int .i64 a2), (5, .slice (if k0 = a2.toNat then (some ⟨g110, 0, none⟩) else (some (⟨g110, 0, none⟩ : Addr)).map (·.add (a2.toNat * 3))) (a0.length - a2.toNat) (k0 - a2.toNat))], ?_⟩
 refine dF [0, 1, 2, 3, 4, 5] [6] (by kernel_rfl) ⟨pm rfl, pm rfl, pt [(20, .slice (some ⟨g110, 0, none⟩) a0.length k0), (21, .int .i64 a1)] rfl (fun U J => r_slice_h uu64 sz72 rfl (J.ev rfl) (J.ev rfl) h111.1 h111.2), pm rfl, pm rfl, pt [(23, .slice (some ⟨g110, 0, none⟩) a0.length k0), (24, .int .i64 a2)] rfl (fun U J => r_slice_l uu64 sz72 rfl (J.ev rfl) (J.ev rfl) h112.1 h112.2.1), trivial⟩ ⟨et [(22, .slice (some ⟨g110, 0, none⟩) a1.toNat k0), (25, .slice (if k0 = a2.toNat then (some ⟨g110, 0, none⟩) else (some (⟨g110, 0, none⟩ : Addr)).map (·.add (a2.toNat * 3))) (a0.length - a2.toNat) (k0 - a2.toNat))] rfl (fun U J K hK => ?_), trivial⟩
 obtain ⟨l113, h114, G⟩ := bnd G
 obtain ⟨h115, G⟩ := chk_some G
 refine z_apR' 0 uu64 sz72 J X (row_rde (lo := 0) (L0 := a2.toNat) (m := a0.length) X 0 rfl h114 ⟨rfl, h112.2.2⟩) (rdo_some h114).1 h115 rfl (fun  w X => ?_) rfl
 obtain ⟨q116, h117, G⟩ := ltt_ G
 rw [← h117] at X
 refine hK _ [(7, .slice (some ⟨g110, 0, none⟩) (a1.toNat + (a0.length - a2.toNat)) k0)] _ rfl ?_
 refine dEnd [7] (by kernel_rfl) ⟨pm rfl, trivial⟩ ⟨by kernel_rfl, by kernel_rfl⟩ [(0, .slice (some ⟨g110, 0, none⟩) (a1.toNat + (a0.length - a2.toNat)) k0), (7, .int .i64 (a0.length : Int))] rfl (fun U J => ?_)
 refine hK108 _ _ ?_
 refine ws fun K118 hK118 => ?_
 refine x_m J rfl fun U J => ?_
 refine x_m J rfl fun U J => ?_
 refine x_v J (r_len uu64 rfl (J.ev rfl)) rfl fun U J => ?_
 refine x_m J rfl fun U J => ?_
 obtain ⟨h119, G⟩ := chk_some G
 refine x_v (v := .slice (some ⟨g110, (0 + (((a1.toNat + (a0.length - a2.toNat)) : Nat) : Int).toNat) * 3, none⟩) ((a0.length : Int).toNat - (((a1.toNat + (a0.length - a2.toNat)) : Nat) : Int).toNat) (k0 - (((a1.toNat + (a0.length - a2.toNat)) : Nat) : Int).toNat)) J (r_row_lh (lo := 0) uu64 sz72 rfl (J.ev rfl) (J.ev rfl) (J.ev rfl) h119) rfl fun U J => ?_
 obtain ⟨h120, G⟩ := chk_some G
 refine x_clR0' (lo := (0 + (((a1.toNat + (a0.length - a2.toNat)) : Nat) : Int).toNat)) (z0 := (((⟨[], [], 0⟩ : S72), none, 0, 0) : S72 × Hd)) 0 uu64 zr72 rfl J X h120 rfl (fun U w X J => ?_) rfl
 obtain ⟨q121, h122, G⟩ := ltt_ G
 rw [← h122] at X
 refine wn (hK118 _ _ ?_)
 refine ws fun K123 hK123 => ?_
 refine x_m J rfl fun U J => ?_
 refine x_m J rfl fun U J => ?_
 refine wn (hK123 _ _ ?_)
 refine wp_ret ?_
 obtain ⟨l124, h125, G⟩ := bnd G
 replace X := rdo_own X h125
 cases G
 refine hQ _ _ ?_
 refine lv Tryz.results34 J rfl ?_
 exact ⟨some ⟨g110, 0, none⟩, a1.toNat + (a0.length - a2.toNat), k0, rfl, X⟩
theorem cut_natH {α : Type} {xs : List α} {l u : Nat} (h : l ≤ u) (hu : u ≤ xs.length) : cut_ xs (l : Int) (u : Int) = some ((xs.take u).drop l) := by
  unfold cut_; rw [if_pos (by omega)]; simp
theorem chk_posH {α : Type} {p : Prop} [Decidable p] {x : Option α} (h : p) : chk p x = x := if_pos h
theorem w64H {n : Int} (h : -9223372036854775808 ≤ n) (h' : n ≤ 9223372036854775807) : IntKind.i64.wrap n = n := IntWalk.i64_in n ⟨h, h'⟩
theorem lt_H {α β : Type} (e : α) (f : α → Option β) : ltt e f = f e := rfl
section
variable {α : Type}
theorem rdo_midH (A C : List (Option α)) (B : List α) {lo k : Nat} (hlo : A.length = lo) (hk : B.length = k) : rdo (A ++ (B.map some ++ C)) lo k = some B := by
  unfold rdo
  rw [if_pos (by simp; omega), ← hlo, List.drop_left, ← hk, show B.length = (B.map some).length by simp, List.take_left, seqO_map]
theorem drop_midH (A B : List α) {k : Nat} (m : Nat) (h : A.length = k) : (A ++ B).drop (k + m) = B.drop m := by
  subst h; rw [List.drop_append, List.drop_of_length_le (by omega), List.nil_append, Nat.add_sub_cancel_left]
theorem take_midH (A B : List α) {k : Nat} (h : A.length = k) : (A ++ B).take k = A := by subst h; exact List.take_left
theorem drop_mid0H (A B : List α) {k : Nat} (h : A.length = k) : (A ++ B).drop k = B := by subst h; exact List.drop_left
end
theorem ins_eqH (P D ys : List (S72 × Hd)) (k0 : Nat) (hk : P.length + D.length ≤ k0) (hb : (P.length + D.length + ys.length) * 48 ≤ 140737488355328) (hm : 0 < ys.length) :
    slices_Insert_files_file_files_file (P ++ D) k0 (P.length : Int) ys = some (P ++ ys ++ D) := by
  unfold slices_Insert_files_file_files_file
  have hl : (P ++ D).length = P.length + D.length := List.length_append
  have c1 := cut_natH (xs := P ++ D) (l := P.length) (u := (P ++ D).length) (by omega) (Nat.le_refl _)
  rw [List.take_length, List.drop_left] at c1
  rw [c1]
  simp only [Option.bind_some, lt_H]
  rw [if_neg (by simp only [beq_iff_eq]; omega)]
  by_cases hD : D = []
  · subst hD
    rw [if_pos (by simp), chk_posH (by rw [hl]; simp only [List.length_nil] at hb ⊢; omega)]
    simp
  have hDl : 0 < D.length := List.length_pos_iff.2 hD
  rw [if_neg (by simp only [beq_iff_eq, hl]; omega), hl, w64H (n := ((P.length + D.length : Nat) : Int) + (ys.length : Int)) (by omega) (by omega),
    show ((P.length + D.length : Nat) : Int) + (ys.length : Int) = ((P.length + D.length + ys.length : Nat) : Int) by omega]
  have e2 : IntKind.i64.wrap ((P.length : Int) + (ys.length : Int)) = ((P.length + ys.length : Nat) : Int) := by rw [w64H (by omega) (by omega)]; omega
  have e3 : IntKind.i64.wrap (((P.length + D.length + ys.length : Nat) : Int) - (P.length : Int)) = ((D.length + ys.length : Nat) : Int) := by rw [w64H (by omega) (by omega)]; omega
  rw [e2, e3]
  simp only [Int.toNat_natCast, Nat.zero_add]
  by_cases hg : k0 < P.length + D.length + ys.length
  · rw [if_pos (by simp only [decide_eq_true_eq]; omega)]
    have c2 := cut_natH (xs := P ++ D) (l := 0) (u := P.length) (by omega) (by omega)
    rw [List.take_left, List.drop_zero, show ((0 : Nat) : Int) = 0 from rfl] at c2
    rw [c2]
    simp only [Option.bind_some]
    generalize (((⟨[], [], 0⟩ : S72), none, 0, 0) : S72 × Hd) = z
    have q0 : (P ++ List.replicate (D.length + ys.length) z).length = P.length + D.length + ys.length := by simp; omega
    have q1 : ys.take (min ys.length (P.length + D.length + ys.length - P.length)) = ys := List.take_of_length_le (by omega)
    have q2 : (P ++ List.replicate (D.length + ys.length) z).take P.length ++ ys ++ (P ++ List.replicate (D.length + ys.length) z).drop (P.length + ys.length) = P ++ ys ++ List.replicate D.length z := by
      rw [List.take_left, drop_midH _ _ _ rfl, List.drop_replicate]
      congr 2
      omega
    rw [chk_posH (by omega), q0, q1, chk_posH (by omega), chk_posH (by omega), q2]
    have q3 : (P ++ ys ++ List.replicate D.length z).length = P.length + D.length + ys.length := by simp; omega
    rw [q3, chk_posH (by omega)]
    have q4 : D.take (min D.length (P.length + D.length + ys.length - (P.length + ys.length))) = D := List.take_of_length_le (by omega)
    rw [q4, chk_posH (by omega), take_midH (P ++ ys) _ (by simp), List.drop_of_length_le (by omega), List.append_nil]
  · rw [if_neg (by simp only [decide_eq_true_eq]; omega), chk_posH (by omega), chk_posH (by omega), chk_posH (by omega), chk_posH (by omega), chk_posH (by omega), chk_posH (by omega)]
    have e4 : (P ++ D).map some ++ List.replicate (k0 - (P.length + D.length)) none = P.map some ++ (D.map some ++ List.replicate (k0 - (P.length + D.length)) none) := by simp
    rw [e4, rdo_midH (P.map some) _ D (by simp) (by omega)]
    simp only [Option.bind_some]
    have q1 : ys.take (min ys.length (P.length + D.length + ys.length - P.length)) = ys := List.take_of_length_le (by omega)
    rw [chk_posH (by omega), chk_posH (by omega), q1, chk_posH (by omega)]
    generalize hN : List.replicate (k0 - (P.length + D.length)) (none : Option (S72 × Hd)) = N
    have hNl : N.length = k0 - (P.length + D.length) := by rw [← hN]; simp
    obtain ⟨O, hO⟩ : ∃ O, O = P.map some ++ (D.map some ++ N) := ⟨_, rfl⟩
    rw [← hO]
    have hOl : O.length = k0 := by rw [hO]; simp [hNl]; omega
    have q5 : (O.take (P.length + ys.length)).length = P.length + ys.length := by rw [List.length_take]; omega
    have q6 : (O.take (P.length + ys.length) ++ D.map some ++ O.drop (P.length + ys.length + D.length)).take P.length = P.map some := by
      rw [List.append_assoc, List.take_append_of_le_length (by omega), List.take_take, Nat.min_eq_left (by omega), hO, take_midH _ _ (by simp)]
    have q7 : (O.take (P.length + ys.length) ++ D.map some ++ O.drop (P.length + ys.length + D.length)).drop (P.length + ys.length) = D.map some ++ O.drop (P.length + ys.length + D.length) := by
      rw [List.append_assoc, drop_mid0H _ _ q5]
    rw [q6, q7]
    have q8 : P.map some ++ ys.map some ++ (D.map some ++ O.drop (P.length + ys.length + D.length)) = [] ++ ((P ++ ys ++ D).map some ++ O.drop (P.length + ys.length + D.length)) := by simp
    rw [q8, rdo_midH [] _ (P ++ ys ++ D) (lo := 0) (k := P.length + D.length + ys.length) rfl (by simp; omega)]
    rfl
theorem del_eqH (P D : List (S72 × Hd)) (x : S72 × Hd) (k0 : Nat) (hk : P.length + 1 + D.length ≤ k0) (hb : k0 ≤ 9223372036854775807) :
    slices_Delete_files_file_files_file (P ++ x :: D) k0 (P.length : Int) ((P.length : Int) + 1) = some (P ++ D) := by
  unfold slices_Delete_files_file_files_file
  have hl : (P ++ x :: D).length = P.length + 1 + D.length := by simp; omega
  have t1 : ((P.length : Int) + 1).toNat = P.length + 1 := by omega
  rw [hl, t1, chk_posH (by omega), if_neg (by simp; omega), chk_posH (by omega), chk_posH (by omega), chk_posH (by omega)]
  simp only [Int.toNat_natCast, Nat.zero_add, lt_H]
  rw [show P.length + 1 + D.length - (P.length + 1) = D.length by omega]
  generalize hN : List.replicate (k0 - (P.length + 1 + D.length)) (none : Option (S72 × Hd)) = N
  have hNl : N.length = k0 - (P.length + 1 + D.length) := by rw [← hN]; simp
  have e4 : (P ++ x :: D).map some ++ N = (P.map some ++ [some x]) ++ (D.map some ++ N) := by simp
  rw [e4, rdo_midH (P.map some ++ [some x]) N D (by simp) rfl]
  simp only [Option.bind_some]
  obtain ⟨O, hO⟩ : ∃ O, O = (P.map some ++ [some x]) ++ (D.map some ++ N) := ⟨_, rfl⟩
  rw [← hO]
  have hOl : O.length = k0 := by rw [hO]; simp [hNl]; omega
  have q6 : O.take P.length = P.map some := by rw [hO, List.append_assoc, take_midH _ _ (by simp)]
  rw [q6, chk_posH (by omega), chk_posH (by omega), show P.length + 1 + D.length - (P.length + D.length) = 1 by omega, chk_posH (by omega)]
  have q9 : ((P.map some ++ D.map some ++ O.drop (P.length + D.length)).take (P.length + D.length)) = (P ++ D).map some := by
    rw [take_midH _ _ (by simp)]; simp
  rw [q9]
  have q8 : ∀ X Y : List (Option (S72 × Hd)), (P ++ D).map some ++ X ++ Y = [] ++ ((P ++ D).map some ++ (X ++ Y)) := by intro X Y; simp
  rw [q8, rdo_midH [] _ (P ++ D) (lo := 0) (k := P.length + D.length) rfl (by simp)]
  rfl
section
variable {r w : World} {L : List HP} {α β : Type} {d : Kd β} {e' : TypeId} {g : α → List β}
theorem rows_appendH : ∀ {ps qs : List (α × Hd)} {L : List HP} {S : Nat → Prop}, Sep (rows d e' g ps :: rows d e' g qs :: L) w S → Sep (rows d e' g (ps ++ qs) :: L) w S
  | [], qs, L, S, h => by
    have h1 : Sep ([] ++ (rows d e' g qs :: L)) w S := Sep.unstar (Ls := []) h
    exact h1
  | p :: ps, qs, L, S, h => rows_cons.2 ((rows_cons.1 h).tl fun S hS => rows_appendH hS)
theorem rows_splitH : ∀ {ps qs : List (α × Hd)} {L : List HP} {S : Nat → Prop}, Sep (rows d e' g (ps ++ qs) :: L) w S → Sep (rows d e' g ps :: rows d e' g qs :: L) w S
  | [], qs, L, S, h => Sep.star (Ls := []) h
  | p :: ps, qs, L, S, h => rows_cons.2 ((rows_cons.1 h).tl fun S hS => rows_splitH hS)
end
abbrev oF (A : Option Addr) (n c : Nat) (xs : List S72) : HP := own2 kp72 (kI .u8) 5 (fun x : S72 => x.f1) 72 A n c xs
def ins_ (xs : List S72) (i : Int) (ys : List S72) : Option (List S72) := if 0 ≤ i ∧ i ≤ (xs.length : Int) ∧ 0 < ys.length ∧ (xs.length + ys.length) * 48 ≤ 140737488355328 then some (xs.take i.toNat ++ ys ++ xs.drop i.toNat) else none
def del_ (xs : List S72) (i j : Int) : Option (List S72) := if 0 ≤ i ∧ i < (xs.length : Int) ∧ j = i + 1 then some (xs.eraseIdx i.toNat) else none
theorem F_ins {r w : World} {L : List HP} (xs : List S72) (i : Int) (ys : List S72) {A B : Option Addr} {n c m c2 : Nat} {y : List S72} (hF : ins_ xs i ys = some y) (hS : SH r (oF A n c xs :: oF B m c2 ys :: L) w) :
    Ret Tryz.prog 24 #[.slice A n c, .int .i64 i, .slice B m c2] w fun v w' => ∃ (A' : Option Addr) (n' c' : Nat), v = .slice A' n' c' ∧ SH r (oF A' n' c' y :: L) w' := by
  unfold ins_ at hF
  split at hF
  · rename_i hi
    cases hF
    obtain ⟨ps, hps, h1⟩ := own2_open hS
    have h2 : SH r (oF B m c2 ys :: own kp72 72 A n c ps :: rows (kI .u8) 5 (fun x : S72 => x.f1) ps :: L) w := h1.sh fun S hS => (hS.tl fun S hS => hS.swap).swap
    obtain ⟨qs, hqs, h3⟩ := own2_open h2
    have h4 : SH r (own kp72 72 A n c ps :: own kp72 72 B m c2 qs :: rows (kI .u8) 5 (fun x : S72 => x.f1) ps :: rows (kI .u8) 5 (fun x : S72 => x.f1) qs :: L) w := h3.sh fun S hS =>
      (hS.tl fun S hS => (hS.swap).tl fun S hS => hS.swap).swap
    have hpl : ps.length = xs.length := by rw [← hps, List.length_map]
    have hql : qs.length = ys.length := by rw [← hqs, List.length_map]
    obtain ⟨hr, hn, hnc, hcm⟩ := h4.rd 0 rfl
    have hpd : ps.take i.toNat ++ ps.drop i.toNat = ps := List.take_append_drop _ _
    have hpt : (ps.take i.toNat).length = i.toNat := by rw [List.length_take]; omega
    have hdl : (ps.drop i.toNat).length = xs.length - i.toNat := by rw [List.length_drop]; omega
    have e := ins_eqH (ps.take i.toNat) (ps.drop i.toNat) qs c (by omega) (by omega) (by omega)
    rw [hpd, hpt, Int.toNat_of_nonneg hi.1] at e
    refine Calls.mono (F_slices_Insert_files_file_files_file (L := rows (kI .u8) 5 (fun x : S72 => x.f1) ps :: rows (kI .u8) 5 (fun x : S72 => x.f1) qs :: L) ps c i qs A n B m c2 e h4) ?_
    rintro ev w' ⟨v, hv, A', n', c', hv2, h5⟩
    refine ⟨v, hv, A', n', c', hv2, own2_mk (ps := ps.take i.toNat ++ qs ++ ps.drop i.toNat) ?_ (h5.tl fun S hS => ?_)⟩
    · rw [List.map_append, List.map_append, List.map_take, List.map_drop, hps, hqs]
    · rw [← hpd] at hS
      have s1 := rows_splitH hS
      have s2 := s1.tl fun S hS => hS.swap
      rw [List.append_assoc]
      exact rows_appendH (s2.tl fun S hS => rows_appendH hS)
  · cases hF
theorem F_delh {r w : World} {L : List HP} {xs : List S72} {i : Int} {ps : List (S72 × Hd)} {p : S72 × Hd} {A : Option Addr} {n c : Nat} (hps : ps.map Prod.fst = xs) (hp : at_ ps i = some p) (hS : SH r (own kp72 72 A n c ps :: rows (kI .u8) 5 (fun x : S72 => x.f1) (ps.eraseIdx i.toNat) :: L) w) :
    Ret Tryz.prog 34 #[.slice A n c, .int .i64 i, .int .i64 (i + 1)] w fun v w' => ∃ (A' : Option Addr) (n' c' : Nat), v = .slice A' n' c' ∧ SH r (oF A' n' c' (xs.eraseIdx i.toNat) :: L) w' := by
  obtain ⟨hi0, hil, hip⟩ := at_some hp
  obtain ⟨hr, hn, hnc, hcm⟩ := hS.rd 0 rfl
  obtain ⟨hlt, hpp⟩ := List.getElem?_eq_some_iff.1 hip
  have hpd : ps.take i.toNat ++ p :: ps.drop (i.toNat + 1) = ps := by
    rw [← hpp, ← List.drop_eq_getElem_cons hlt, List.take_append_drop]
  have hpt : (ps.take i.toNat).length = i.toNat := by rw [List.length_take]; omega
  have hdl : (ps.drop (i.toNat + 1)).length = ps.length - (i.toNat + 1) := List.length_drop
  have hcb : c ≤ 9223372036854775807 := by unfold maxLen at hcm; omega
  have e := del_eqH (ps.take i.toNat) (ps.drop (i.toNat + 1)) p c (by omega) hcb
  rw [hpd, hpt, Int.toNat_of_nonneg hi0] at e
  refine Calls.mono (F_slices_Delete_files_file_files_file (L := rows (kI .u8) 5 (fun x : S72 => x.f1) (ps.eraseIdx i.toNat) :: L) ps c i (i + 1) A n e hS) ?_
  rintro ev w' ⟨v, hv, A', n', c', hv2, h5⟩
  refine ⟨v, hv, A', n', c', hv2, ?_⟩
  rw [← List.eraseIdx_eq_take_drop_succ] at h5
  refine own2_mk (ps := ps.eraseIdx i.toNat) ?_ h5
  rw [← hps, List.eraseIdx_eq_take_drop_succ, List.eraseIdx_eq_take_drop_succ, List.map_append, List.map_take, List.map_drop]
theorem F_delj {r w : World} {L : List HP} {xs : List S72} {i j : Int} {ps : List (S72 × Hd)} {p : S72 × Hd} {A : Option Addr} {n c : Nat} (hj : j = i + 1) (hps : ps.map Prod.fst = xs) (hp : at_ ps i = some p) (hS : SH r (own kp72 72 A n c ps :: rows (kI .u8) 5 (fun x : S72 => x.f1) (ps.eraseIdx i.toNat) :: L) w) :
    Ret Tryz.prog 34 #[.slice A n c, .int .i64 i, .int .i64 j] w fun v w' => ∃ (A' : Option Addr) (n' c' : Nat), v = .slice A' n' c' ∧ SH r (oF A' n' c' (xs.eraseIdx i.toNat) :: L) w' := by
  subst hj
  exact F_delh hps hp hS
theorem F_del {r w : World} {L : List HP} (xs : List S72) (i j : Int) {A : Option Addr} {n c : Nat} {y : List S72} (hF : del_ xs i j = some y) (hS : SH r (oF A n c xs :: L) w) :
    Ret Tryz.prog 34 #[.slice A n c, .int .i64 i, .int .i64 j] w fun v w' => ∃ (A' : Option Addr) (n' c' : Nat), v = .slice A' n' c' ∧ SH r (oF A' n' c' y :: L) w' := by
  unfold del_ at hF
  split at hF
  · rename_i hi
    cases hF
    obtain ⟨h0, h1, rfl⟩ := hi
    have hx : at_ xs i = some (xs[i.toNat]'(by omega)) := by unfold at_; rw [if_pos h0, List.getElem?_eq_getElem]
    obtain ⟨ps, A', n', c', hps, hp, h2⟩ := own2_out hS hx
    have h3 : SH r (own kp72 72 A n c ps :: rows (kI .u8) 5 (fun x : S72 => x.f1) (ps.eraseIdx i.toNat) :: L) w := h2.sh fun S hS => hS.tl fun S hS => by
      obtain ⟨S1, S2, q1, q2, qd, hA, hL⟩ := hS
      exact hL.mono q2
    exact F_delh hps hp h3
  · cases hF
noncomputable section
set_option linter.unusedSimpArgs false
def files_Form_b1 (a0 : (List UInt8)) : Option (Bool) :=
  if (!(a0 == [])) = true then (some (decide ((a0.length : Int) ≤ 32))) else (some false)
def files_Form_x1_0 (a0 : (List UInt8)) : Option (Bool) :=
  files_Form_b1 a0
def files_Form_j1 (x383 : Int) (b427 : Bool) : Option ((Int) ⊕ ((Unit) ⊕ (Bool))) :=
  if b427 = true then (some (.inr (.inr false))) else (ltt (IntKind.i64.wrap (x383 + 1)) fun x430 => (some (.inl (x430))))
def files_Form_l1 (a0 : (List UInt8)) (x383 : Int) : Option ((Int) ⊕ ((Unit) ⊕ (Bool))) :=
  if (decide (x383 < (a0.length : Int))) = true then ((at_ a0 x383).bind fun x419 => (if ((x419.toNat : Int) != 46) = true then (if (decide ((x419.toNat : Int) < 48)) = true then (if (decide ((x419.toNat : Int) < 97)) = true then (files_Form_j1 x383 true) else (files_Form_j1 x383 (decide (122 < (x419.toNat : Int))))) else (if (decide (57 < (x419.toNat : Int))) = true then (if (decide ((x419.toNat : Int) < 97)) = true then (files_Form_j1 x383 true) else (files_Form_j1 x383 (decide (122 < (x419.toNat : Int))))) else (files_Form_j1 x383 false))) else (files_Form_j1 x383 false))) else (some (.inr (.inl ())))
def files_Form (a0 : (List UInt8)) : Option (Bool) :=
  (loop (fun s => files_Form_l1 a0 s) (0)).bind fun t => match t with | (.inl t) => files_Form_x1_0 a0 | (.inr t) => some t
def files_Store_find_1 (a0 : S72) (a1 : (List UInt8)) : Option (Int) :=
  if (Op.bytesLess a0.f0 a1) = true then (some (-1)) else (if (!(Op.bytesLess a0.f0 a1 || a0.f0 == a1)) = true then (some 1) else (some 0))
def slices_BinarySearchFunc_files_file_files_file_string_b1 (a0 : (List S72)) (a1 : (List UInt8)) (x592 : Int) : Option (Int × Bool) :=
  if (decide (x592 < (a0.length : Int))) = true then ((at_ a0 x592).bind fun x595 => ((files_Store_find_1 x595 a1).bind fun y602 => (some (x592, y602 == 0)))) else (some (x592, false))
def slices_BinarySearchFunc_files_file_files_file_string_x1_0 (a0 : (List S72)) (a1 : (List UInt8)) (x712 : Int) : Option (Int × Bool) :=
  slices_BinarySearchFunc_files_file_files_file_string_b1 a0 a1 x712
def slices_BinarySearchFunc_files_file_files_file_string_b2 (x740 : Int) (x741 : Int) : Option ((Int × Int) ⊕ ((Int))) :=
  some (.inl (x740, x741))
def slices_BinarySearchFunc_files_file_files_file_string_l1 (a0 : (List S72)) (a1 : (List UInt8)) (x657 : Int) (x658 : Int) : Option ((Int × Int) ⊕ ((Int))) :=
  if (decide (x657 < x658)) = true then (ltt (IntKind.i64.wrap (x657 + x658)) fun x743 => (ltt (IntKind.u64.wrap x743) fun x745 => (ltt (ishr .u64 x745 1) fun x747 => (ltt (IntKind.i64.wrap x747) fun x749 => ((at_ a0 x749).bind fun x752 => ((files_Store_find_1 x752 a1).bind fun y759 => (if (decide (y759 < 0)) = true then (ltt (IntKind.i64.wrap (x749 + 1)) fun x762 => (slices_BinarySearchFunc_files_file_files_file_string_b2 x762 x658)) else (slices_BinarySearchFunc_files_file_files_file_string_b2 x657 x749)))))))) else (some (.inr (x657)))
def slices_BinarySearchFunc_files_file_files_file_string (a0 : (List S72)) (a1 : (List UInt8)) : Option (Int × Bool) :=
  (loop (fun s => slices_BinarySearchFunc_files_file_files_file_string_l1 a0 a1 s.1 s.2) (0, (a0.length : Int))).bind fun t => slices_BinarySearchFunc_files_file_files_file_string_x1_0 a0 a1 t
def files_Store_find (a0 : S66) (a1 : (List UInt8)) : Option (Int × Bool) :=
  (slices_BinarySearchFunc_files_file_files_file_string a0.f0 a1).bind fun y103 => (some (y103.1, y103.2))
def files_Store_look (a0 : (Option S66)) (a1 : (List UInt8)) : Option (Int) :=
  match a0 with | none => (some 5) | some x101 => ((files_Form a1).bind fun y116 => (if (!y116) = true then (some 1) else (if x101.f3 = true then (some 9) else (some 0))))
def files_Store_begin_j1 (a0 : S66) (x106 : Int) (x114 : Int) (b115 : Bool) : Option (Bool × S66) :=
  some (!b115, (⟨a0.f0, a0.f1, x114, b115, x106⟩ : S66))
def files_Store_begin (a0 : S66) : Option (Bool × S66) :=
  ltt (IntKind.i64.wrap (a0.f4 + 1)) fun x106 => (if (decide (0 < a0.f2)) = true then (ltt (IntKind.i64.wrap (a0.f2 - 1)) fun x120 => (files_Store_begin_j1 a0 x106 x120 (x120 == 0))) else (files_Store_begin_j1 a0 x106 a0.f2 a0.f3))
def files_Store_Used_b1 (x309 : Int) : Option (Int) :=
  some x309
def files_Store_Used_x1_0 (x353 : Int) : Option (Int) :=
  files_Store_Used_b1 x353
def files_Store_Used_l1 (x101 : S66) (x331 : Int) (x332 : Int) : Option ((Int × Int) ⊕ ((Int))) :=
  if (decide (x332 < (x101.f0.length : Int))) = true then ((at_ x101.f0 x332).bind fun x361 => (ltt (IntKind.i64.wrap (x331 + (x361.f1.length : Int))) fun x369 => (ltt (IntKind.i64.wrap (x332 + 1)) fun x371 => (some (.inl (x369, x371)))))) else (some (.inr (x331)))
def files_Store_Used (a0 : (Option S66)) : Option (Int) :=
  match a0 with | none => (some 0) | some x101 => ((loop (fun s => files_Store_Used_l1 x101 s.1 s.2) (0, 0)).bind fun t => files_Store_Used_x1_0 t)
def files_Store_List_b1 (l399 : (List (List UInt8))) : Option ((List (List UInt8))) :=
  some l399
def files_Store_List_x1_0 (l469 : (List (List UInt8))) : Option ((List (List UInt8))) :=
  files_Store_List_b1 l469
def files_Store_List_l1 (x101 : S66) (l438 : (List (List UInt8))) (x442 : Int) : Option (((List (List UInt8)) × Int) ⊕ (((List (List UInt8))))) :=
  if (decide (x442 < (x101.f0.length : Int))) = true then ((at_ x101.f0 x442).bind fun x480 => (chk (l438.length + [x480.f0].length ≤ 140737488355328 / 16) (ltt (IntKind.i64.wrap (x442 + 1)) fun x493 => (some (.inl (l438 ++ [x480.f0], x493)))))) else (some (.inr (l438)))
def files_Store_List (a0 : (Option S66)) : Option ((List (List UInt8))) :=
  match a0 with | none => (some []) | some x101 => ((loop (fun s => files_Store_List_l1 x101 s.1 s.2) ([], 0)).bind fun t => files_Store_List_x1_0 t)
def files_New_j1 (a0 : Int) (b105 : Bool) : Option ((Option S66) × Int) :=
  if b105 = true then (some (none, 1)) else (some (some (⟨[], a0, 0, false, 0⟩ : S66), 0))
def files_New (a0 : Int) : Option ((Option S66) × Int) :=
  if (decide (a0 < 1)) = true then (files_New_j1 a0 true) else (files_New_j1 a0 (decide (16777216 < a0)))
def files_Store_Append_j2 (a2 : (List Int)) (y129 : (Int × Bool)) (y151 : (Bool × S66)) (l165 : (List S72)) : Option (Int × (Option S66)) :=
  (at_ l165 y129.1).bind fun x170 => (chk (x170.f1.length + a2.length ≤ 140737488355328 / 1) (if (!y151.1) = true then (some (9, some (⟨l165.set y129.1.toNat (⟨x170.f0, x170.f1 ++ a2, x170.f2⟩ : S72), y151.2.f1, y151.2.f2, y151.2.f3, y151.2.f4⟩ : S66))) else (some (0, some (⟨l165.set y129.1.toNat (⟨x170.f0, x170.f1 ++ a2, x170.f2⟩ : S72), y151.2.f1, y151.2.f2, y151.2.f3, y151.2.f4⟩ : S66)))))
def files_Store_Append_j1 (a1 : (List UInt8)) (a2 : (List Int)) (x101 : S66) (y129 : (Int × Bool)) (b147 : Bool) : Option (Int × (Option S66)) :=
  if b147 = true then (some (10, some x101)) else ((files_Store_begin x101).bind fun y151 => (if (!y129.2) = true then ((ins_ y151.2.f0 y129.1 [(⟨a1, [], 0⟩ : S72)]).bind fun y192 => (files_Store_Append_j2 a2 y129 y151 y192)) else (files_Store_Append_j2 a2 y129 y151 y151.2.f0)))
def files_Store_Append (a0 : (Option S66)) (a1 : (List UInt8)) (a2 : (List Int)) : Option (Int × (Option S66)) :=
  match a0 with | none => ((files_Store_look none a1).bind fun y106 => (if (y106 != 0) = true then (some (y106, none)) else (none))) | some x101 => ((files_Store_look (some x101) a1).bind fun y118 => (if (y118 != 0) = true then (some (y118, some x101)) else ((files_Store_find x101 a1).bind fun y129 => ((files_Store_Used (some x101)).bind fun y197 => (ltt (IntKind.i64.wrap (x101.f1 - y197)) fun x204 => (if (decide (x204 < (a2.length : Int))) = true then (files_Store_Append_j1 a1 a2 x101 y129 true) else (if (!y129.2) = true then (files_Store_Append_j1 a1 a2 x101 y129 (decide (500 ≤ (x101.f0.length : Int)))) else (files_Store_Append_j1 a1 a2 x101 y129 false))))))))
def files_Store_Read (a0 : (Option S66)) (a1 : (List UInt8)) : Option ((List Int) × Int) :=
  match a0 with | none => ((files_Store_look none a1).bind fun y106 => (if (y106 != 0) = true then (some ([], y106)) else (none))) | some x101 => ((files_Store_look (some x101) a1).bind fun y118 => (if (y118 != 0) = true then (some ([], y118)) else ((files_Store_find x101 a1).bind fun y129 => (if (!y129.2) = true then (some ([], 5)) else ((at_ x101.f0 y129.1).bind fun x136 => ((slices_Clone_byte_byte x136.f1).bind fun y145 => (some (y145, 0))))))))
end
theorem F_files_Form {r : World} {L : List HP} {w : World} (a0 : (List UInt8)) {y : (Bool)} (G : files_Form a0 = some y) (X : SH r (L) w) :
  Ret Tryz.prog 36 #[str a0] w fun v w' => v = .bool y ∧ SH r (L) w' := by
 refine enter Tryz.func36 rfl Tryz.ntmps36 [(0, str a0)] rfl (by simp) ?_
 intro U J Qf hQ hQn
 unfold files_Form at G
 refine ws fun K100 hK100 => ?_
 refine x_m J rfl fun U J => ?_
 refine wn (hK100 _ _ ?_)
 refine wp_seq_k fun K101 hK101 => ?_
 refine ws fun K102 hK102 => ?_
 refine x_m J rfl fun U J => ?_
 refine x_v J (r_lenS uu9 rfl (J.ev rfl)) rfl fun U J => ?_
 refine x_m J rfl fun U J => ?_
 refine wn (hK102 _ _ ?_)
 refine wp_block_k fun Kx103 hKx103 => ?_
 have hb1 : files_Form_b1 a0 = some y → ∀ (U : Act) (w : World), FR 39 [] U [(0, str a0)] → SH r (L) w → Kx103 U w := by
  intro G U w J X
  unfold files_Form_b1 at G
  refine hKx103 _ _ ?_
  refine hK101 _ _ ?_
  refine ws fun K104 hK104 => ?_
  refine x_m J rfl fun U J => ?_
  refine x_v J (r_neS rfl (J.ev rfl) (J.ev rfl)) rfl fun U J => ?_
  refine x_m J rfl fun U J => ?_
  refine bcase (b := !(a0 == [])) (fun hb105 => ?_) fun hb105 => ?_
  ·replace G := ift hb105 G
   refine x_on' hb105 J ?_ rfl
   refine x_m J rfl fun U J => ?_
   refine x_on' hb105 J ?_ rfl
   refine x_v J (r_lenS uu9 rfl (J.ev rfl)) rfl fun U J => ?_
   refine x_on' hb105 J ?_ rfl
   refine x_v J (r_leI rfl (J.ev rfl) (J.ev rfl)) rfl fun U J => ?_
   refine x_pickt' hb105 J (fun U J => ?_) rfl
   refine x_m J rfl fun U J => ?_
   refine wn (hK104 _ _ ?_)
   refine wp_ret ?_
   cases G
   refine hQ _ _ ?_
   refine lv Tryz.results36 J rfl ?_
   exact ⟨rfl, X⟩
  replace G := iff' hb105 G
  refine xO 3 hb105 J rfl fun U J => ?_
  refine x_pickf' hb105 J (fun U J => ?_) rfl
  refine x_m J rfl fun U J => ?_
  refine wn (hK104 _ _ ?_)
  refine wp_ret ?_
  cases G
  refine hQ _ _ ?_
  refine lv Tryz.results36 J rfl ?_
  exact ⟨rfl, X⟩
 obtain ⟨t106, hl106, G⟩ := bnd G
 have hR106 := G
 have hx106_0 : (.inl ()) = t106 → ∀ (U : Act) (w : World), FR 39 [] U [(0, str a0)] → SH r (L) w → Kx103 U w := by
  intro ht U w J X
  subst ht
  replace G : files_Form_x1_0 a0 = some y := G
  unfold files_Form_x1_0 at G
  exact hb1 G U w (J.sub _ rfl) X
 refine wp_loop_fn hl106 (fun s U w => FR 39 [] U [(0, str a0), (6, .int .i64 (a0.length : Int)), (7, .int .i64 s)] ∧ SH r (L) w) ⟨J.sub _ rfl, X⟩ ?_
 intro N106 s106 o106 G N106_ T106_ U w hLab
 obtain ⟨x107, rfl⟩ : ∃ q, q = s106 := ⟨_, rfl⟩
 replace G : files_Form_l1 a0 x107 = some o106 := G
 unfold files_Form_l1 at G
 try dsimp only at hLab
 obtain ⟨J, X⟩ := hLab
 refine ws fun K108 hK108 => ?_
 refine x_v J (r_ltI rfl (J.ev rfl) (J.ev rfl)) rfl fun U J => ?_
 refine wn (hK108 _ _ ?_)
 refine wp_seq_k fun K109 hK109 => ?_
 refine c_if J rfl (fun hb110 => ?_) fun hb110 => ?_
 ·replace G := ift hb110 G
  refine wp_skip ?_
  refine hK109 _ _ ?_
  refine wp_seq_k fun K111 hK111 => ?_
  refine wp_block_k fun Kx112 hKx112 => ?_
  refine ws fun K113 hK113 => ?_
  refine x_m J rfl fun U J => ?_
  refine x_m J rfl fun U J => ?_
  refine wn (hK113 _ _ ?_)
  refine ws fun K114 hK114 => ?_
  refine x_m J rfl fun U J => ?_
  refine x_m J rfl fun U J => ?_
  obtain ⟨x115, h116, G⟩ := bnd G
  refine x_v J (r_indexS uu9 rfl (J.ev rfl) (J.ev rfl) (at_some h116).1 (at_some h116).2.2) rfl fun U J => ?_
  refine x_m J rfl fun U J => ?_
  refine wn (hK114 _ _ ?_)
  refine wp_seq_k fun K117 hK117 => ?_
  have hj1 : ∀ (b118 : Bool), files_Form_j1 x107 b118 = some o106 → ∀ (U : Act) (w : World), FR 39 [] U [(0, str a0), (6, .int .i64 (a0.length : Int)), (7, .int .i64 x107), (30, .bool b118)] → SH r (L) w → K117 U w := by
   intro b118 G U w J X
   unfold files_Form_j1 at G
   refine hK117 _ _ ?_
   refine c_if J rfl (fun hb119 => ?_) fun hb119 => ?_
   ·replace G := ift hb119 G
    refine ws fun K120 hK120 => ?_
    refine x_m J rfl fun U J => ?_
    refine wn (hK120 _ _ ?_)
    refine wp_ret ?_
    cases G
    have ht := T106_ _ rfl
    subst ht
    replace G := hR106
    replace G : some false = some y := G
    cases G
    refine hQ _ _ ?_
    refine lv Tryz.results36 J rfl ?_
    exact ⟨rfl, X⟩
   replace G := iff' hb119 G
   refine wp_skip ?_
   refine hKx112 _ _ ?_
   refine hK111 _ _ ?_
   refine wp_reg ?_
   obtain ⟨x121, h122, G⟩ := ltt_ G
   refine x_v (v := .int .i64 x121) J (rv_i h122 (r_add rfl (J.ev rfl) (J.ev rfl))) rfl fun U J => ?_
   refine x_m J rfl fun U J => ?_
   refine wpList_nil ?_
   cases G
   exact ⟨_, N106_ _ rfl, J.sub _ rfl, X⟩
  refine wp_reg ?_
  refine x_m J rfl fun U J => ?_
  refine x_v J (r_neI rfl (J.ev rfl) (J.ev rfl)) rfl fun U J => ?_
  refine x_m J rfl fun U J => ?_
  refine bcase (b := (x115.toNat : Int) != 46) (fun hb123 => ?_) fun hb123 => ?_
  ·replace G := ift hb123 G
   refine x_on' hb123 J ?_ rfl
   refine x_m J rfl fun U J => ?_
   refine x_on' hb123 J ?_ rfl
   refine x_v J (r_ltI rfl (J.ev rfl) (J.ev rfl)) rfl fun U J => ?_
   refine x_on' hb123 J ?_ rfl
   refine x_m J rfl fun U J => ?_
   refine bcase (b := decide ((x115.toNat : Int) < 48)) (fun hb124 => ?_) fun hb124 => ?_
   ·replace G := ift hb124 G
    refine xO 2 hb124 J rfl fun U J => ?_
    refine x_on' hb123 J ?_ rfl
    refine x_pickt' hb124 J (fun U J => ?_) rfl
    refine x_pickt' hb123 J (fun U J => ?_) rfl
    refine x_m J rfl fun U J => ?_
    refine x_on' rfl J ?_ rfl
    refine x_m J rfl fun U J => ?_
    refine x_on' rfl J ?_ rfl
    refine x_v J (r_ltI rfl (J.ev rfl) (J.ev rfl)) rfl fun U J => ?_
    refine x_on' rfl J ?_ rfl
    refine x_m J rfl fun U J => ?_
    refine bcase (b := decide ((x115.toNat : Int) < 97)) (fun hb125 => ?_) fun hb125 => ?_
    ·replace G := ift hb125 G
     refine xO 2 hb125 J rfl fun U J => ?_
     refine x_on' rfl J ?_ rfl
     refine x_pickt' hb125 J (fun U J => ?_) rfl
     refine x_pickt' rfl J (fun U J => ?_) rfl
     refine wpList_nil ?_
     exact hj1 true G U w (J.sub _ rfl) X
    replace G := iff' hb125 G
    refine x_on' hb125 J ?_ rfl
    refine x_m J rfl fun U J => ?_
    refine x_on' hb125 J ?_ rfl
    refine x_v J (r_gtI rfl (J.ev rfl) (J.ev rfl)) rfl fun U J => ?_
    refine x_on' rfl J ?_ rfl
    refine x_pickf' hb125 J (fun U J => ?_) rfl
    refine x_pickt' rfl J (fun U J => ?_) rfl
    refine wpList_nil ?_
    exact hj1 (decide (122 < (x115.toNat : Int))) G U w (J.sub _ rfl) X
   replace G := iff' hb124 G
   refine x_on' hb124 J ?_ rfl
   refine x_m J rfl fun U J => ?_
   refine x_on' hb124 J ?_ rfl
   refine x_v J (r_gtI rfl (J.ev rfl) (J.ev rfl)) rfl fun U J => ?_
   refine x_on' hb123 J ?_ rfl
   refine x_pickf' hb124 J (fun U J => ?_) rfl
   refine x_pickt' hb123 J (fun U J => ?_) rfl
   refine x_m J rfl fun U J => ?_
   refine bcase (b := decide (57 < (x115.toNat : Int))) (fun hb126 => ?_) fun hb126 => ?_
   ·replace G := ift hb126 G
    refine x_on' hb126 J ?_ rfl
    refine x_m J rfl fun U J => ?_
    refine x_on' hb126 J ?_ rfl
    refine x_v J (r_ltI rfl (J.ev rfl) (J.ev rfl)) rfl fun U J => ?_
    refine x_on' hb126 J ?_ rfl
    refine x_m J rfl fun U J => ?_
    refine bcase (b := decide ((x115.toNat : Int) < 97)) (fun hb127 => ?_) fun hb127 => ?_
    ·replace G := ift hb127 G
     refine xO 2 hb127 J rfl fun U J => ?_
     refine x_on' hb126 J ?_ rfl
     refine x_pickt' hb127 J (fun U J => ?_) rfl
     refine x_pickt' hb126 J (fun U J => ?_) rfl
     refine wpList_nil ?_
     exact hj1 true G U w (J.sub _ rfl) X
    replace G := iff' hb127 G
    refine x_on' hb127 J ?_ rfl
    refine x_m J rfl fun U J => ?_
    refine x_on' hb127 J ?_ rfl
    refine x_v J (r_gtI rfl (J.ev rfl) (J.ev rfl)) rfl fun U J => ?_
    refine x_on' hb126 J ?_ rfl
    refine x_pickf' hb127 J (fun U J => ?_) rfl
    refine x_pickt' hb126 J (fun U J => ?_) rfl
    refine wpList_nil ?_
    exact hj1 (decide (122 < (x115.toNat : Int))) G U w (J.sub _ rfl) X
   replace G := iff' hb126 G
   refine xO 3 hb126 J rfl fun U J => ?_
   refine x_offU' J (fun U J => ?_) rfl
   refine x_offU' J (fun U J => ?_) rfl
   refine xO 1 hb126 J rfl fun U J => ?_
   refine x_pickf' hb126 J (fun U J => ?_) rfl
   refine wpList_nil ?_
   exact hj1 false G U w (J.sub _ rfl) X
  replace G := iff' hb123 G
  refine xO 3 hb123 J rfl fun U J => ?_
  refine x_offU' J (fun U J => ?_) rfl
  refine x_offU' J (fun U J => ?_) rfl
  refine xO 1 hb123 J rfl fun U J => ?_
  refine x_pickf' hb123 J (fun U J => ?_) rfl
  refine x_m J rfl fun U J => ?_
  refine xO 3 rfl J rfl fun U J => ?_
  refine x_offU' J (fun U J => ?_) rfl
  refine x_offU' J (fun U J => ?_) rfl
  refine xO 1 rfl J rfl fun U J => ?_
  refine x_pickf' rfl J (fun U J => ?_) rfl
  refine wpList_nil ?_
  exact hj1 false G U w (J.sub _ rfl) X
 replace G := iff' hb110 G
 refine wp_exit ?_
 cases G
 exact hx106_0 (T106_ _ rfl) U w (J.sub _ rfl) X
theorem F_files_Store_find_1 {r : World} {L : List HP} {w : World} (a0 : S72) (a1 : (List UInt8)) (A0 : Option Addr) (n0 : Nat) (c0 : Nat) {y : (Int)} (G : files_Store_find_1 a0 a1 = some y) (X : SH r (L) w) :
  Ret Tryz.prog 38 #[.agg #[str a0.f0, .slice A0 n0 c0, .int .i64 a0.f2], str a1] w fun v w' => v = .int .i64 y ∧ SH r (L) w' := by
 refine enter Tryz.func38 rfl Tryz.ntmps38 [(0, .agg #[str a0.f0, .slice A0 n0 c0, .int .i64 a0.f2]), (1, str a1)] rfl (by simp) ?_
 intro U J Qf hQ hQn
 unfold files_Store_find_1 at G
 refine ws fun K100 hK100 => ?_
 refine x_box' J X (fun g101 U w X J => ?_) rfl
 refine x_m J rfl fun U J => ?_
 refine wn (hK100 _ _ ?_)
 refine wp_seq_k fun K102 hK102 => ?_
 refine wp_block_k fun Kx103 hKx103 => ?_
 refine ws fun K104 hK104 => ?_
 refine x_fab' fa72_0 J (fun U J => ?_) rfl
 refine x_ld' uu9 (X.cell 0 rfl 0 _ rfl) J (fun U J => ?_) rfl
 refine x_m J rfl fun U J => ?_
 refine x_v J (r_ltS rfl (J.ev rfl) (J.ev rfl)) rfl fun U J => ?_
 refine x_m J rfl fun U J => ?_
 refine wn (hK104 _ _ ?_)
 refine c_if J rfl (fun hb105 => ?_) fun hb105 => ?_
 ·replace G := ift hb105 G
  refine ws fun K106 hK106 => ?_
  refine x_m J rfl fun U J => ?_
  refine wn (hK106 _ _ ?_)
  refine wp_ret ?_
  replace X := X.drop 0
  cases G
  refine hQ _ _ ?_
  refine lv Tryz.results38 J rfl ?_
  exact ⟨rfl, X⟩
 replace G := iff' hb105 G
 refine ws fun K107 hK107 => ?_
 refine x_fab' fa72_0 J (fun U J => ?_) rfl
 refine x_ld' uu9 (X.cell 0 rfl 0 _ rfl) J (fun U J => ?_) rfl
 refine x_m J rfl fun U J => ?_
 refine x_v J (r_gtS rfl (J.ev rfl) (J.ev rfl)) rfl fun U J => ?_
 refine x_m J rfl fun U J => ?_
 refine wn (hK107 _ _ ?_)
 refine c_if J rfl (fun hb108 => ?_) fun hb108 => ?_
 ·replace G := ift hb108 G
  refine ws fun K109 hK109 => ?_
  refine x_m J rfl fun U J => ?_
  refine wn (hK109 _ _ ?_)
  refine wp_ret ?_
  replace X := X.drop 0
  cases G
  refine hQ _ _ ?_
  refine lv Tryz.results38 J rfl ?_
  exact ⟨rfl, X⟩
 replace G := iff' hb108 G
 refine wp_skip ?_
 refine hKx103 _ _ ?_
 refine hK102 _ _ ?_
 refine ws fun K110 hK110 => ?_
 refine x_m J rfl fun U J => ?_
 refine wn (hK110 _ _ ?_)
 refine wp_ret ?_
 replace X := X.drop 0
 cases G
 refine hQ _ _ ?_
 refine lv Tryz.results38 J rfl ?_
 exact ⟨rfl, X⟩
theorem F_slices_BinarySearchFunc_files_file_files_file_string {r : World} {L : List HP} {w : World} (a0 : (List S72)) (a1 : (List UInt8)) (A0 : Option Addr) (n0 : Nat) (c0 : Nat) {y : (Int × Bool)} (G : slices_BinarySearchFunc_files_file_files_file_string a0 a1 = some y) (ha0 : RdL L (kL kp72 (fun x : S72 => x.f1)) A0 n0 c0 a0) (X : SH r (L) w) :
  Ret Tryz.prog 37 #[.slice A0 n0 c0, str a1, .func (.func 38) #[] #[]] w fun v w' => v = .tuple #[(.int .i64 y.1), (.bool y.2)] ∧ SH r (L) w' := by
 refine enter Tryz.func37 rfl Tryz.ntmps37 [(0, .slice A0 n0 c0), (1, str a1), (2, .func (.func 38) #[] #[])] rfl (by simp) ?_
 intro U J Qf hQ hQn
 unfold slices_BinarySearchFunc_files_file_files_file_string at G
 refine ws fun K100 hK100 => ?_
 refine x_m J rfl fun U J => ?_
 refine x_m J rfl fun U J => ?_
 refine wn (hK100 _ _ ?_)
 refine ws fun K101 hK101 => ?_
 refine x_m J rfl fun U J => ?_
 refine x_len' uu64 (X.rdl 0 ha0 rfl).2.1 J (fun U J => ?_) rfl
 refine x_m J rfl fun U J => ?_
 refine wn (hK101 _ _ ?_)
 refine ws fun K102 hK102 => ?_
 refine x_m J rfl fun U J => ?_
 refine x_m J rfl fun U J => ?_
 refine x_m J rfl fun U J => ?_
 refine wn (hK102 _ _ ?_)
 refine wp_seq_k fun K103 hK103 => ?_
 refine wp_block_k fun Kx104 hKx104 => ?_
 have hb1 : ∀ (x105 : Int), slices_BinarySearchFunc_files_file_files_file_string_b1 a0 a1 x105 = some y → ∀ (U : Act) (w : World), FR 49 [] U [(0, .slice A0 n0 c0), (1, str a1), (2, .func (.func 38) #[] #[]), (8, .int .i64 (a0.length : Int)), (9, .int .i64 x105)] → SH r (L) w → Kx104 U w := by
  intro x105 G U w J X
  unfold slices_BinarySearchFunc_files_file_files_file_string_b1 at G
  refine hKx104 _ _ ?_
  refine hK103 _ _ ?_
  refine ws fun K106 hK106 => ?_
  refine x_m J rfl fun U J => ?_
  refine x_m J rfl fun U J => ?_
  refine x_m J rfl fun U J => ?_
  refine x_v J (r_ltI rfl (J.ev rfl) (J.ev rfl)) rfl fun U J => ?_
  refine x_m J rfl fun U J => ?_
  refine bcase (b := decide (x105 < (a0.length : Int))) (fun hb107 => ?_) fun hb107 => ?_
  ·replace G := ift hb107 G
   refine x_on' hb107 J ?_ rfl
   refine x_m J rfl fun U J => ?_
   refine x_on' hb107 J ?_ rfl
   refine x_m J rfl fun U J => ?_
   refine x_on' hb107 J ?_ rfl
   refine x_m J rfl fun U J => ?_
   refine x_on' hb107 J ?_ rfl
   obtain ⟨x108, h109, G⟩ := bnd G
   refine x_ia' uu64 sz72 (X.rdl 0 ha0 rfl) h109 J (fun U J => ?_) rfl
   refine x_on' hb107 J ?_ rfl
   obtain ⟨cs, hV, hc110⟩ := el (X.rdl 0 ha0 rfl) h109
   obtain ⟨⟨A111, n112, c113⟩, hV, h114⟩ := hV
   obtain rfl := hV
   refine x_lda' (cs := [str x108.f0, .slice A111 n112 c113, .int .i64 x108.f2]) uu72 sz72 (fun j u h => by rw [ea_add]; exact hc110 _ _ h) J (fun U J => ?_) rfl
   refine x_on' hb107 J ?_ rfl
   refine x_m J rfl fun U J => ?_
   refine x_on' hb107 J ?_ rfl
   obtain ⟨y115, h116, G⟩ := bnd G
   refine x_callv' (vs := #[.agg #[str x108.f0, .slice A111 n112 c113, .int .i64 x108.f2], str a1]) en38 J (F_files_Store_find_1 (L := L) x108 a1 A111 n112 c113 h116 X) (fun v U w hR J => ?_) rfl
   obtain ⟨rfl, X⟩ := hR
   refine x_on' hb107 J ?_ rfl
   refine x_v J (r_eqI rfl (J.ev rfl) (J.ev rfl)) rfl fun U J => ?_
   refine x_pickt' hb107 J (fun U J => ?_) rfl
   refine x_m J rfl fun U J => ?_
   refine x_m J rfl fun U J => ?_
   refine wn (hK106 _ _ ?_)
   refine wp_ret ?_
   cases G
   refine hQ _ _ ?_
   refine lv2 Tryz.results37 J rfl rfl ?_
   exact ⟨rfl, X⟩
  replace G := iff' hb107 G
  refine xO 8 hb107 J rfl fun U J => ?_
  refine x_pickf' hb107 J (fun U J => ?_) rfl
  refine x_m J rfl fun U J => ?_
  refine x_m J rfl fun U J => ?_
  refine wn (hK106 _ _ ?_)
  refine wp_ret ?_
  cases G
  refine hQ _ _ ?_
  refine lv2 Tryz.results37 J rfl rfl ?_
  exact ⟨rfl, X⟩
 obtain ⟨t117, hl117, G⟩ := bnd G
 have hx117_0 : ∀ (x117 : Int), (x117) = t117 → ∀ (U : Act) (w : World), FR 49 [] U [(0, .slice A0 n0 c0), (1, str a1), (2, .func (.func 38) #[] #[]), (8, .int .i64 (a0.length : Int)), (9, .int .i64 x117)] → SH r (L) w → Kx104 U w := by
  intro x117 ht U w J X
  subst ht
  replace G : slices_BinarySearchFunc_files_file_files_file_string_x1_0 a0 a1 x117 = some y := G
  unfold slices_BinarySearchFunc_files_file_files_file_string_x1_0 at G
  exact hb1 x117 G U w (J.sub _ rfl) X
 refine wp_loop_fn hl117 (fun s U w => FR 49 [] U [(0, .slice A0 n0 c0), (1, str a1), (2, .func (.func 38) #[] #[]), (8, .int .i64 (a0.length : Int)), (9, .int .i64 s.1), (10, .int .i64 s.2)] ∧ SH r (L) w) ⟨J.sub _ rfl, X⟩ ?_
 intro N117 s117 o117 G N117_ T117_ U w hLab
 obtain ⟨x118, x119⟩ := s117
 replace G : slices_BinarySearchFunc_files_file_files_file_string_l1 a0 a1 x118 x119 = some o117 := G
 unfold slices_BinarySearchFunc_files_file_files_file_string_l1 at G
 try dsimp only at hLab
 obtain ⟨J, X⟩ := hLab
 refine wp_seq_k fun K120 hK120 => ?_
 refine ws fun K121 hK121 => ?_
 refine x_m J rfl fun U J => ?_
 refine x_m J rfl fun U J => ?_
 refine x_v J (r_ltI rfl (J.ev rfl) (J.ev rfl)) rfl fun U J => ?_
 refine wn (hK121 _ _ ?_)
 refine c_if J rfl (fun hb122 => ?_) fun hb122 => ?_
 ·replace G := ift hb122 G
  refine wp_skip ?_
  refine hK120 _ _ ?_
  refine wp_block_k fun Kx123 hKx123 => ?_
  have hb2 : ∀ (x124 : Int) (x125 : Int), slices_BinarySearchFunc_files_file_files_file_string_b2 x124 x125 = some o117 → ∀ (U : Act) (w : World), FR 49 [] U [(0, .slice A0 n0 c0), (1, str a1), (2, .func (.func 38) #[] #[]), (8, .int .i64 (a0.length : Int)), (9, .int .i64 x124), (10, .int .i64 x125)] → SH r (L) w → Kx123 U w := by
   intro x124 x125 G U w J X
   unfold slices_BinarySearchFunc_files_file_files_file_string_b2 at G
   refine hKx123 _ _ ?_
   cases G
   exact ⟨_, N117_ _ rfl, J.sub _ rfl, X⟩
  refine ws fun K126 hK126 => ?_
  refine x_m J rfl fun U J => ?_
  refine x_m J rfl fun U J => ?_
  obtain ⟨x127, h128, G⟩ := ltt_ G
  refine x_v (v := .int .i64 x127) J (rv_i h128 (r_add rfl (J.ev rfl) (J.ev rfl))) rfl fun U J => ?_
  obtain ⟨x129, h130, G⟩ := ltt_ G
  refine x_v (v := .int .u64 x129) J (rv_i h130 (r_convI uu3 uu114 rfl (J.ev rfl))) rfl fun U J => ?_
  obtain ⟨x131, h132, G⟩ := ltt_ G
  refine x_v (v := .int .u64 x131) J (rv_i h132 (r_shr rfl (J.ev rfl) (J.ev rfl) (by decide))) rfl fun U J => ?_
  obtain ⟨x133, h134, G⟩ := ltt_ G
  refine x_v (v := .int .i64 x133) J (rv_i h134 (r_convI uu114 uu3 rfl (J.ev rfl))) rfl fun U J => ?_
  refine x_m J rfl fun U J => ?_
  refine wn (hK126 _ _ ?_)
  refine ws fun K135 hK135 => ?_
  refine x_m J rfl fun U J => ?_
  refine x_m J rfl fun U J => ?_
  refine x_m J rfl fun U J => ?_
  obtain ⟨x136, h137, G⟩ := bnd G
  refine x_ia' uu64 sz72 (X.rdl 0 ha0 rfl) h137 J (fun U J => ?_) rfl
  obtain ⟨cs, hV, hc138⟩ := el (X.rdl 0 ha0 rfl) h137
  obtain ⟨⟨A139, n140, c141⟩, hV, h142⟩ := hV
  obtain rfl := hV
  refine x_lda' (cs := [str x136.f0, .slice A139 n140 c141, .int .i64 x136.f2]) uu72 sz72 (fun j u h => by rw [ea_add]; exact hc138 _ _ h) J (fun U J => ?_) rfl
  refine x_m J rfl fun U J => ?_
  obtain ⟨y143, h144, G⟩ := bnd G
  refine x_callv' (vs := #[.agg #[str x136.f0, .slice A139 n140 c141, .int .i64 x136.f2], str a1]) en38 J (F_files_Store_find_1 (L := L) x136 a1 A139 n140 c141 h144 X) (fun v U w hR J => ?_) rfl
  obtain ⟨rfl, X⟩ := hR
  refine x_v J (r_ltI rfl (J.ev rfl) (J.ev rfl)) rfl fun U J => ?_
  refine wn (hK135 _ _ ?_)
  refine c_if J rfl (fun hb145 => ?_) fun hb145 => ?_
  ·replace G := ift hb145 G
   refine wp_reg ?_
   refine x_m J rfl fun U J => ?_
   obtain ⟨x146, h147, G⟩ := ltt_ G
   refine x_v (v := .int .i64 x146) J (rv_i h147 (r_add rfl (J.ev rfl) (J.ev rfl))) rfl fun U J => ?_
   refine x_m J rfl fun U J => ?_
   refine wpList_nil ?_
   exact hb2 x146 x119 G U w (J.sub _ rfl) X
  replace G := iff' hb145 G
  refine wp_reg ?_
  refine x_m J rfl fun U J => ?_
  refine x_m J rfl fun U J => ?_
  refine wpList_nil ?_
  exact hb2 x118 x133 G U w (J.sub _ rfl) X
 replace G := iff' hb122 G
 refine wp_exit ?_
 cases G
 exact hx117_0 x118 (T117_ _ rfl) U w (J.sub _ rfl) X
theorem F_files_Store_find {r : World} {L : List HP} {w : World} (a0 : S66) (a1 : (List UInt8)) (g0 : Nat) (A0_0 : Option Addr) (n0_0 : Nat) (c0_0 : Nat) {y : (Int × Bool)} (G : files_Store_find a0 a1 = some y) (X : SH r (blk g0 66 [.slice A0_0 n0_0 c0_0, .int .i64 a0.f1, .int .i64 a0.f2, .bool a0.f3, .int .i64 a0.f4] :: own2 kp72 (kI .u8) 5 (fun x : S72 => x.f1) 72 A0_0 n0_0 c0_0 a0.f0 :: L) w) :
  Ret Tryz.prog 21 #[.pointer (some ⟨g0, 0, none⟩), str a1] w fun v w' => v = .tuple #[(.int .i64 y.1), (.bool y.2)] ∧ SH r (blk g0 66 [.slice A0_0 n0_0 c0_0, .int .i64 a0.f1, .int .i64 a0.f2, .bool a0.f3, .int .i64 a0.f4] :: own2 kp72 (kI .u8) 5 (fun x : S72 => x.f1) 72 A0_0 n0_0 c0_0 a0.f0 :: L) w' := by
 refine enter Tryz.func21 rfl Tryz.ntmps21 [(0, (pP g0)), (1, str a1)] rfl (by simp) ?_
 intro U J Qf hQ hQn
 unfold files_Store_find at G
 refine ws fun K100 hK100 => ?_
 refine x_m J rfl fun U J => ?_
 refine x_m J rfl fun U J => ?_
 refine wn (hK100 _ _ ?_)
 refine ws fun K101 hK101 => ?_
 refine x_m J rfl fun U J => ?_
 refine x_v J (r_nilCheck rfl (J.ev rfl)) rfl fun U J => ?_
 refine x_fab' fa66_0 J (fun U J => ?_) rfl
 refine x_ld' uu64 (X.cell 0 rfl 0 _ rfl) J (fun U J => ?_) rfl
 refine x_m J rfl fun U J => ?_
 obtain ⟨y102, h103, G⟩ := bnd G
 refine x_call' en37 J (F_slices_BinarySearchFunc_files_file_files_file_string (L := blk g0 66 [.slice A0_0 n0_0 c0_0, .int .i64 a0.f1, .int .i64 a0.f2, .bool a0.f3, .int .i64 a0.f4] :: own2 kp72 (kI .u8) 5 (fun x : S72 => x.f1) 72 A0_0 n0_0 c0_0 a0.f0 :: L) a0.f0 a1 A0_0 n0_0 c0_0 h103 (RdL.own2 1 rfl (X.dropN 0)) X) (fun v U w hR J => ?_) rfl
 obtain ⟨rfl, X⟩ := hR
 refine x_v J (r_extract rfl (J.ev rfl) rfl) rfl fun U J => ?_
 refine x_v J (r_extract rfl (J.ev rfl) rfl) rfl fun U J => ?_
 refine x_m J rfl fun U J => ?_
 refine x_m J rfl fun U J => ?_
 refine wn (hK101 _ _ ?_)
 refine wp_ret ?_
 replace X := X.pk 1 |>.pk 1
 cases G
 refine hQ _ _ ?_
 refine lv2 Tryz.results21 J rfl rfl ?_
 exact ⟨rfl, X⟩
theorem F_files_Store_look {r : World} {L : List HP} {w : World} (a0 : (Option S66)) (a1 : (List UInt8)) (p0 : Option Addr) {y : (Int)} (G : files_Store_look a0 a1 = some y) (X : SH r (optP (obj66) p0 a0 :: L) w) :
  Ret Tryz.prog 20 #[.pointer p0, str a1] w fun v w' => v = .int .i64 y ∧ SH r (optP (obj66) p0 a0 :: L) w' := by
 refine enter Tryz.func20 rfl Tryz.ntmps20 [(0, .pointer p0), (1, str a1)] rfl (by simp) ?_
 intro U J Qf hQ hQn
 unfold files_Store_look at G
 cases a0 with
 | none =>
  have hU := SH.unoptN X
  clear X
  obtain ⟨rfl, X⟩ := hU
  refine ws fun K100 hK100 => ?_
  refine x_m J rfl fun U J => ?_
  refine wn (hK100 _ _ ?_)
  refine wp_seq_k fun K101 hK101 => ?_
  refine wp_block_k fun Kx102 hKx102 => ?_
  refine ws fun K103 hK103 => ?_
  refine x_m J rfl fun U J => ?_
  refine x_v (v := .bool true) J (r_eqNilP (p := none) uu24 rfl (J.ev rfl) (J.ev rfl)) rfl fun U J => ?_
  refine x_m J rfl fun U J => ?_
  refine wn (hK103 _ _ ?_)
  refine c_t (b := true) rfl J ?_ rfl
  refine ws fun K104 hK104 => ?_
  refine x_m J rfl fun U J => ?_
  refine wn (hK104 _ _ ?_)
  refine wp_ret ?_
  replace X := SH.optN (obj66) X
  cases G
  refine hQ _ _ ?_
  refine lv Tryz.results20 J rfl ?_
  exact ⟨rfl, X⟩
 | some x105 =>
  have hU := SH.unoptS X
  clear X
  obtain ⟨g106, rfl, X⟩ := hU
  obtain ⟨A107, n108, c109, X⟩ := obj66_open X
  refine ws fun K110 hK110 => ?_
  refine x_m J rfl fun U J => ?_
  refine wn (hK110 _ _ ?_)
  refine wp_seq_k fun K111 hK111 => ?_
  refine wp_block_k fun Kx112 hKx112 => ?_
  refine ws fun K113 hK113 => ?_
  refine x_m J rfl fun U J => ?_
  refine x_v (v := .bool false) J (r_eqNilP (p := some ⟨g106, 0, none⟩) uu24 rfl (J.ev rfl) (J.ev rfl)) rfl fun U J => ?_
  refine x_m J rfl fun U J => ?_
  refine wn (hK113 _ _ ?_)
  refine c_f (b := false) rfl J ?_ rfl
  refine ws fun K114 hK114 => ?_
  refine x_m J rfl fun U J => ?_
  obtain ⟨y115, h116, G⟩ := bnd G
  refine x_call' en36 J (F_files_Form (L := blk g106 66 [.slice A107 n108 c109, .int .i64 x105.f1, .int .i64 x105.f2, .bool x105.f3, .int .i64 x105.f4] :: own2 kp72 (kI .u8) 5 (fun x : S72 => x.f1) 72 A107 n108 c109 x105.f0 :: L) a1 h116 X) (fun v U w hR J => ?_) rfl
  obtain ⟨rfl, X⟩ := hR
  refine x_v J (r_not rfl (J.ev rfl)) rfl fun U J => ?_
  refine x_m J rfl fun U J => ?_
  refine wn (hK114 _ _ ?_)
  refine c_if J rfl (fun hb117 => ?_) fun hb117 => ?_
  ·replace G := ift hb117 G
   refine ws fun K118 hK118 => ?_
   refine x_m J rfl fun U J => ?_
   refine wn (hK118 _ _ ?_)
   refine wp_ret ?_
   replace X := X.pk 1 |>.pk 1
   replace X := obj66_mk (x := x105) X
   replace X := SH.optS X
   cases G
   refine hQ _ _ ?_
   refine lv Tryz.results20 J rfl ?_
   exact ⟨rfl, X⟩
  replace G := iff' hb117 G
  refine ws fun K119 hK119 => ?_
  refine x_m J rfl fun U J => ?_
  refine x_v J (r_nilCheck rfl (J.ev rfl)) rfl fun U J => ?_
  refine x_fab' fa66_3 J (fun U J => ?_) rfl
  refine x_ld' uu4 (X.cell 0 rfl 3 _ rfl) J (fun U J => ?_) rfl
  refine x_m J rfl fun U J => ?_
  refine wn (hK119 _ _ ?_)
  refine c_if J rfl (fun hb120 => ?_) fun hb120 => ?_
  ·replace G := ift hb120 G
   refine ws fun K121 hK121 => ?_
   refine x_m J rfl fun U J => ?_
   refine wn (hK121 _ _ ?_)
   refine wp_ret ?_
   replace X := X.pk 1 |>.pk 1
   replace X := obj66_mk (x := x105) X
   replace X := SH.optS X
   cases G
   refine hQ _ _ ?_
   refine lv Tryz.results20 J rfl ?_
   exact ⟨rfl, X⟩
  replace G := iff' hb120 G
  refine wp_skip ?_
  refine hKx112 _ _ ?_
  refine hK111 _ _ ?_
  refine ws fun K122 hK122 => ?_
  refine x_m J rfl fun U J => ?_
  refine wn (hK122 _ _ ?_)
  refine wp_ret ?_
  replace X := X.pk 1 |>.pk 1
  replace X := obj66_mk (x := x105) X
  replace X := SH.optS X
  cases G
  refine hQ _ _ ?_
  refine lv Tryz.results20 J rfl ?_
  exact ⟨rfl, X⟩
theorem F_files_Store_begin {r : World} {L : List HP} {w : World} (a0 : S66) (g0 : Nat) {y : (Bool × S66)} (G : files_Store_begin a0 = some y) (X : SH r (obj66 g0 a0 :: L) w) :
  Ret Tryz.prog 23 #[.pointer (some ⟨g0, 0, none⟩)] w fun v w' => v = .bool y.1 ∧ SH r (obj66 g0 y.2 :: L) w' := by
 refine enter Tryz.func23 rfl Tryz.ntmps23 [(0, (pP g0))] rfl (by simp) ?_
 intro U J Qf hQ hQn
 unfold files_Store_begin at G
 obtain ⟨A100, n101, c102, X⟩ := obj66_open X
 refine ws fun K103 hK103 => ?_
 refine x_m J rfl fun U J => ?_
 refine wn (hK103 _ _ ?_)
 refine ws fun K104 hK104 => ?_
 refine x_m J rfl fun U J => ?_
 refine x_v J (r_nilCheck rfl (J.ev rfl)) rfl fun U J => ?_
 refine x_fab' fa66_4 J (fun U J => ?_) rfl
 refine x_ld' uu3 (X.cell 0 rfl 4 _ rfl) J (fun U J => ?_) rfl
 obtain ⟨x105, h106, G⟩ := ltt_ G
 refine x_v (v := .int .i64 x105) J (rv_i h106 (r_add rfl (J.ev rfl) (J.ev rfl))) rfl fun U J => ?_
 refine x_v J (r_nilCheck rfl (J.ev rfl)) rfl fun U J => ?_
 refine x_fab' fa66_4 J (fun U J => ?_) rfl
 refine x_stb' 0 sz3 J X rfl (fun  U w X J => ?_) rfl
 refine wn (hK104 _ _ ?_)
 refine wp_seq_k fun K107 hK107 => ?_
 have hj1 : ∀ (x108 : Int) (b109 : Bool), files_Store_begin_j1 a0 x105 x108 b109 = some y → ∀ (U : Act) (w : World), FR 35 [] U [(0, (pP g0))] → SH r (blk g0 66 [.slice A100 n101 c102, .int .i64 a0.f1, .int .i64 x108, .bool b109, .int .i64 x105] :: own2 kp72 (kI .u8) 5 (fun x : S72 => x.f1) 72 A100 n101 c102 a0.f0 :: L) w → K107 U w := by
  intro x108 b109 G U w J X
  unfold files_Store_begin_j1 at G
  refine hK107 _ _ ?_
  refine ws fun K110 hK110 => ?_
  refine x_m J rfl fun U J => ?_
  refine x_v J (r_nilCheck rfl (J.ev rfl)) rfl fun U J => ?_
  refine x_fab' fa66_3 J (fun U J => ?_) rfl
  refine x_ld' uu4 (X.cell 0 rfl 3 _ rfl) J (fun U J => ?_) rfl
  refine x_v J (r_not rfl (J.ev rfl)) rfl fun U J => ?_
  refine x_m J rfl fun U J => ?_
  refine wn (hK110 _ _ ?_)
  refine wp_ret ?_
  replace X := X.pk 1 |>.pk 1
  replace X := obj66_mk (x := (⟨a0.f0, a0.f1, x108, b109, x105⟩ : S66)) X
  cases G
  refine hQ _ _ ?_
  refine lv Tryz.results23 J rfl ?_
  exact ⟨rfl, X⟩
 refine ws fun K111 hK111 => ?_
 refine x_m J rfl fun U J => ?_
 refine x_v J (r_nilCheck rfl (J.ev rfl)) rfl fun U J => ?_
 refine x_fab' fa66_2 J (fun U J => ?_) rfl
 refine x_ld' uu3 (X.cell 0 rfl 2 _ rfl) J (fun U J => ?_) rfl
 refine x_v J (r_gtI rfl (J.ev rfl) (J.ev rfl)) rfl fun U J => ?_
 refine wn (hK111 _ _ ?_)
 refine c_if J rfl (fun hb112 => ?_) fun hb112 => ?_
 ·replace G := ift hb112 G
  refine ws fun K113 hK113 => ?_
  refine x_m J rfl fun U J => ?_
  refine x_v J (r_nilCheck rfl (J.ev rfl)) rfl fun U J => ?_
  refine x_fab' fa66_2 J (fun U J => ?_) rfl
  refine x_ld' uu3 (X.cell 0 rfl 2 _ rfl) J (fun U J => ?_) rfl
  obtain ⟨x114, h115, G⟩ := ltt_ G
  refine x_v (v := .int .i64 x114) J (rv_i h115 (r_sub rfl (J.ev rfl) (J.ev rfl))) rfl fun U J => ?_
  refine x_v J (r_nilCheck rfl (J.ev rfl)) rfl fun U J => ?_
  refine x_fab' fa66_2 J (fun U J => ?_) rfl
  refine x_stb' 0 sz3 J X rfl (fun  U w X J => ?_) rfl
  refine wn (hK113 _ _ ?_)
  refine wp_reg ?_
  refine x_m J rfl fun U J => ?_
  refine x_m J rfl fun U J => ?_
  refine x_v J (r_nilCheck rfl (J.ev rfl)) rfl fun U J => ?_
  refine x_fab' fa66_2 J (fun U J => ?_) rfl
  refine x_ld' uu3 (X.cell 0 rfl 2 _ rfl) J (fun U J => ?_) rfl
  refine x_v J (r_eqI rfl (J.ev rfl) (J.ev rfl)) rfl fun U J => ?_
  refine x_v J (r_nilCheck rfl (J.ev rfl)) rfl fun U J => ?_
  refine x_fab' fa66_3 J (fun U J => ?_) rfl
  refine x_stb' 0 sz4 J X rfl (fun  U w X J => ?_) rfl
  refine wpList_nil ?_
  exact hj1 x114 (x114 == 0) G U w (J.sub _ rfl) X
 replace G := iff' hb112 G
 refine wp_skip ?_
 exact hj1 a0.f2 a0.f3 G U w (J.sub _ rfl) X
theorem F_files_Store_Used {r : World} {L : List HP} {w : World} (a0 : (Option S66)) (p0 : Option Addr) {y : (Int)} (G : files_Store_Used a0 = some y) (X : SH r (optP (obj66) p0 a0 :: L) w) :
  Ret Tryz.prog 22 #[.pointer p0] w fun v w' => v = .int .i64 y ∧ SH r (optP (obj66) p0 a0 :: L) w' := by
 refine enter Tryz.func22 rfl Tryz.ntmps22 [(0, .pointer p0)] rfl (by simp) ?_
 intro U J Qf hQ hQn
 unfold files_Store_Used at G
 cases a0 with
 | none =>
  have hU := SH.unoptN X
  clear X
  obtain ⟨rfl, X⟩ := hU
  refine ws fun K100 hK100 => ?_
  refine x_m J rfl fun U J => ?_
  refine wn (hK100 _ _ ?_)
  refine ws fun K101 hK101 => ?_
  refine x_m J rfl fun U J => ?_
  refine wn (hK101 _ _ ?_)
  refine wp_seq_k fun K102 hK102 => ?_
  refine ws fun K103 hK103 => ?_
  refine x_m J rfl fun U J => ?_
  refine x_v (v := .bool false) J (r_neNilP (p := none) uu24 rfl (J.ev rfl) (J.ev rfl)) rfl fun U J => ?_
  refine wn (hK103 _ _ ?_)
  refine c_f (b := false) rfl J ?_ rfl
  refine wp_skip ?_
  refine hK102 _ _ ?_
  refine ws fun K104 hK104 => ?_
  refine x_m J rfl fun U J => ?_
  refine x_m J rfl fun U J => ?_
  refine wn (hK104 _ _ ?_)
  refine wp_ret ?_
  replace X := SH.optN (obj66) X
  cases G
  refine hQ _ _ ?_
  refine lv Tryz.results22 J rfl ?_
  exact ⟨rfl, X⟩
 | some x105 =>
  have hU := SH.unoptS X
  clear X
  obtain ⟨g106, rfl, X⟩ := hU
  obtain ⟨A107, n108, c109, X⟩ := obj66_open X
  refine ws fun K110 hK110 => ?_
  refine x_m J rfl fun U J => ?_
  refine wn (hK110 _ _ ?_)
  refine ws fun K111 hK111 => ?_
  refine x_m J rfl fun U J => ?_
  refine wn (hK111 _ _ ?_)
  refine wp_seq_k fun K112 hK112 => ?_
  refine ws fun K113 hK113 => ?_
  refine x_m J rfl fun U J => ?_
  refine x_v (v := .bool true) J (r_neNilP (p := some ⟨g106, 0, none⟩) uu24 rfl (J.ev rfl) (J.ev rfl)) rfl fun U J => ?_
  refine wn (hK113 _ _ ?_)
  refine c_t (b := true) rfl J ?_ rfl
  refine ws fun K114 hK114 => ?_
  refine x_m J rfl fun U J => ?_
  refine x_v J (r_nilCheck rfl (J.ev rfl)) rfl fun U J => ?_
  refine x_fab' fa66_0 J (fun U J => ?_) rfl
  refine x_ld' uu64 (X.cell 0 rfl 0 _ rfl) J (fun U J => ?_) rfl
  refine x_len' uu64 (X.rd2L 1 rfl).2.1 J (fun U J => ?_) rfl
  refine x_m J rfl fun U J => ?_
  refine wn (hK114 _ _ ?_)
  refine wp_block_k fun Kx115 hKx115 => ?_
  have hb1 : ∀ (x116 : Int), files_Store_Used_b1 x116 = some y → ∀ (U : Act) (w : World), FR 24 [] U [(0, (pP g106)), (3, .int .i64 x116)] → SH r (blk g106 66 [.slice A107 n108 c109, .int .i64 x105.f1, .int .i64 x105.f2, .bool x105.f3, .int .i64 x105.f4] :: own2 kp72 (kI .u8) 5 (fun x : S72 => x.f1) 72 A107 n108 c109 x105.f0 :: L) w → Kx115 U w := by
   intro x116 G U w J X
   unfold files_Store_Used_b1 at G
   refine hKx115 _ _ ?_
   refine hK112 _ _ ?_
   refine ws fun K117 hK117 => ?_
   refine x_m J rfl fun U J => ?_
   refine x_m J rfl fun U J => ?_
   refine wn (hK117 _ _ ?_)
   refine wp_ret ?_
   replace X := X.pk 1 |>.pk 1
   replace X := obj66_mk (x := x105) X
   replace X := SH.optS X
   cases G
   refine hQ _ _ ?_
   refine lv Tryz.results22 J rfl ?_
   exact ⟨rfl, X⟩
  obtain ⟨t118, hl118, G⟩ := bnd G
  have hx118_0 : ∀ (x118 : Int), (x118) = t118 → ∀ (U : Act) (w : World), FR 24 [] U [(0, (pP g106)), (3, .int .i64 x118)] → SH r (blk g106 66 [.slice A107 n108 c109, .int .i64 x105.f1, .int .i64 x105.f2, .bool x105.f3, .int .i64 x105.f4] :: own2 kp72 (kI .u8) 5 (fun x : S72 => x.f1) 72 A107 n108 c109 x105.f0 :: L) w → Kx115 U w := by
   intro x118 ht U w J X
   subst ht
   replace G : files_Store_Used_x1_0 x118 = some y := G
   unfold files_Store_Used_x1_0 at G
   exact hb1 x118 G U w (J.sub _ rfl) X
  refine wp_loop_fn hl118 (fun s U w => FR 24 [] U [(0, (pP g106)), (3, .int .i64 s.1), (11, .slice A107 n108 c109), (12, .int .i64 (x105.f0.length : Int)), (13, .int .i64 s.2)] ∧ SH r (blk g106 66 [.slice A107 n108 c109, .int .i64 x105.f1, .int .i64 x105.f2, .bool x105.f3, .int .i64 x105.f4] :: own2 kp72 (kI .u8) 5 (fun x : S72 => x.f1) 72 A107 n108 c109 x105.f0 :: L) w) ⟨J.sub _ rfl, X⟩ ?_
  intro N118 s118 o118 G N118_ T118_ U w hLab
  obtain ⟨x119, x120⟩ := s118
  replace G : files_Store_Used_l1 x105 x119 x120 = some o118 := G
  unfold files_Store_Used_l1 at G
  try dsimp only at hLab
  obtain ⟨J, X⟩ := hLab
  refine ws fun K121 hK121 => ?_
  refine x_v J (r_ltI rfl (J.ev rfl) (J.ev rfl)) rfl fun U J => ?_
  refine wn (hK121 _ _ ?_)
  refine wp_seq_k fun K122 hK122 => ?_
  refine c_if J rfl (fun hb123 => ?_) fun hb123 => ?_
  ·replace G := ift hb123 G
   refine wp_skip ?_
   refine hK122 _ _ ?_
   refine wp_seq_k fun K124 hK124 => ?_
   refine wp_block_k fun Kx125 hKx125 => ?_
   refine ws fun K126 hK126 => ?_
   obtain ⟨x127, h128, G⟩ := bnd G
   refine x_ia' uu64 sz72 (X.rd2L 1 rfl) h128 J (fun U J => ?_) rfl
   obtain ⟨cs, hV, hc129⟩ := el (X.rd2L 1 rfl) h128
   obtain ⟨⟨A130, n131, c132⟩, hV, h133⟩ := hV
   obtain rfl := hV
   refine x_lda' (cs := [str x127.f0, .slice A130 n131 c132, .int .i64 x127.f2]) uu72 sz72 (fun j u h => by rw [ea_add]; exact hc129 _ _ h) J (fun U J => ?_) rfl
   refine x_alloc' (cs := [str [], .slice none 0 0, .int .i64 0]) zr72 J X (fun g134 U w X J => ?_) rfl
   refine x_stb' 0 sz72 J X rfl (fun  U w X J => ?_) rfl
   refine wn (hK126 _ _ ?_)
   refine wp_reg ?_
   refine x_m J rfl fun U J => ?_
   refine x_fab' fa72_1 J (fun U J => ?_) rfl
   refine x_ld' uu29 (X.cell 0 rfl 1 _ rfl) J (fun U J => ?_) rfl
   refine x_len' uu29 (show x127.f1.length = n131 from h133) J (fun U J => ?_) rfl
   obtain ⟨x135, h136, G⟩ := ltt_ G
   refine x_v (v := .int .i64 x135) J (rv_i h136 (r_add rfl (J.ev rfl) (J.ev rfl))) rfl fun U J => ?_
   refine x_m J rfl fun U J => ?_
   refine wpList_nil ?_
   refine hKx125 _ _ ?_
   refine hK124 _ _ ?_
   refine wp_reg ?_
   obtain ⟨x137, h138, G⟩ := ltt_ G
   refine x_v (v := .int .i64 x137) J (rv_i h138 (r_add rfl (J.ev rfl) (J.ev rfl))) rfl fun U J => ?_
   refine x_m J rfl fun U J => ?_
   refine wpList_nil ?_
   replace X := X.drop 0
   cases G
   exact ⟨_, N118_ _ rfl, J.sub _ rfl, X⟩
  replace G := iff' hb123 G
  refine wp_exit ?_
  cases G
  exact hx118_0 x119 (T118_ _ rfl) U w (J.sub _ rfl) X
theorem F_files_Store_List {r : World} {L : List HP} {w : World} (a0 : (Option S66)) (p0 : Option Addr) {y : ((List (List UInt8)))} (G : files_Store_List a0 = some y) (X : SH r (optP (obj66) p0 a0 :: L) w) :
  Ret Tryz.prog 14 #[.pointer p0] w fun v w' => ∃ (B0 : Option Addr) (m0 : Nat) (d0 : Nat), v = .slice B0 m0 d0 ∧ SH r (own kS 9 B0 m0 d0 y :: optP (obj66) p0 a0 :: L) w' := by
 refine enter Tryz.func14 rfl Tryz.ntmps14 [(0, .pointer p0)] rfl (by simp) ?_
 intro U J Qf hQ hQn
 unfold files_Store_List at G
 cases a0 with
 | none =>
  have hU := SH.unoptN X
  clear X
  obtain ⟨rfl, X⟩ := hU
  refine ws fun K100 hK100 => ?_
  refine x_m J rfl fun U J => ?_
  refine wn (hK100 _ _ ?_)
  refine ws fun K101 hK101 => ?_
  refine x_m J rfl fun U J => ?_
  refine wn (hK101 _ _ ?_)
  refine wp_seq_k fun K102 hK102 => ?_
  refine ws fun K103 hK103 => ?_
  refine x_m J rfl fun U J => ?_
  refine x_v (v := .bool false) J (r_neNilP (p := none) uu24 rfl (J.ev rfl) (J.ev rfl)) rfl fun U J => ?_
  refine wn (hK103 _ _ ?_)
  refine c_f (b := false) rfl J ?_ rfl
  refine wp_skip ?_
  refine hK102 _ _ ?_
  refine ws fun K104 hK104 => ?_
  refine x_m J rfl fun U J => ?_
  refine x_m J rfl fun U J => ?_
  refine wn (hK104 _ _ ?_)
  refine wp_ret ?_
  replace X := SH.nil_own (d := kS) (e := 9) X
  replace X := SH.optN (obj66) X
  replace X := X.pk 1
  cases G
  refine hQ _ _ ?_
  refine lv Tryz.results14 J rfl ?_
  exact ⟨none, 0, 0, rfl, X⟩
 | some x105 =>
  have hU := SH.unoptS X
  clear X
  obtain ⟨g106, rfl, X⟩ := hU
  obtain ⟨A107, n108, c109, X⟩ := obj66_open X
  refine ws fun K110 hK110 => ?_
  refine x_m J rfl fun U J => ?_
  refine wn (hK110 _ _ ?_)
  refine ws fun K111 hK111 => ?_
  refine x_m J rfl fun U J => ?_
  refine wn (hK111 _ _ ?_)
  refine wp_seq_k fun K112 hK112 => ?_
  refine ws fun K113 hK113 => ?_
  refine x_m J rfl fun U J => ?_
  refine x_v (v := .bool true) J (r_neNilP (p := some ⟨g106, 0, none⟩) uu24 rfl (J.ev rfl) (J.ev rfl)) rfl fun U J => ?_
  refine wn (hK113 _ _ ?_)
  refine c_t (b := true) rfl J ?_ rfl
  refine ws fun K114 hK114 => ?_
  refine x_m J rfl fun U J => ?_
  refine x_v J (r_nilCheck rfl (J.ev rfl)) rfl fun U J => ?_
  refine x_fab' fa66_0 J (fun U J => ?_) rfl
  refine x_ld' uu64 (X.cell 0 rfl 0 _ rfl) J (fun U J => ?_) rfl
  refine x_len' uu64 (X.rd2L 1 rfl).2.1 J (fun U J => ?_) rfl
  refine x_m J rfl fun U J => ?_
  refine wn (hK114 _ _ ?_)
  refine wp_block_k fun Kx115 hKx115 => ?_
  have hb1 : ∀ (l116 : (List (List UInt8))), files_Store_List_b1 l116 = some y → ∀ (A117 : Option Addr) (n118 : Nat) (c119 : Nat) (U : Act) (w : World), FR 24 [] U [(0, (pP g106)), (3, .slice A117 n118 c119)] → SH r (blk g106 66 [.slice A107 n108 c109, .int .i64 x105.f1, .int .i64 x105.f2, .bool x105.f3, .int .i64 x105.f4] :: own2 kp72 (kI .u8) 5 (fun x : S72 => x.f1) 72 A107 n108 c109 x105.f0 :: own kS 9 A117 n118 c119 l116 :: L) w → Kx115 U w := by
   intro l116 G A117 n118 c119 U w J X
   unfold files_Store_List_b1 at G
   refine hKx115 _ _ ?_
   refine hK112 _ _ ?_
   refine ws fun K120 hK120 => ?_
   refine x_m J rfl fun U J => ?_
   refine x_m J rfl fun U J => ?_
   refine wn (hK120 _ _ ?_)
   refine wp_ret ?_
   replace X := X.pk 1 |>.pk 1
   replace X := obj66_mk (x := x105) X
   replace X := SH.optS X
   replace X := X.pk 1
   cases G
   refine hQ _ _ ?_
   refine lv Tryz.results14 J rfl ?_
   exact ⟨A117, n118, c119, rfl, X⟩
  obtain ⟨t121, hl121, G⟩ := bnd G
  have hx121_0 : ∀ (l122 : (List (List UInt8))), (l122) = t121 → ∀ (A123 : Option Addr) (n124 : Nat) (c121 : Nat) (U : Act) (w : World), FR 24 [] U [(0, (pP g106)), (3, .slice A123 n124 c121)] → SH r (blk g106 66 [.slice A107 n108 c109, .int .i64 x105.f1, .int .i64 x105.f2, .bool x105.f3, .int .i64 x105.f4] :: own2 kp72 (kI .u8) 5 (fun x : S72 => x.f1) 72 A107 n108 c109 x105.f0 :: own kS 9 A123 n124 c121 l122 :: L) w → Kx115 U w := by
   intro l122 ht A123 n124 c121 U w J X
   subst ht
   replace G : files_Store_List_x1_0 l122 = some y := G
   unfold files_Store_List_x1_0 at G
   exact hb1 l122 G A123 n124 c121 U w (J.sub _ rfl) X
  replace X := SH.nil_own (d := kS) (e := 9) X
  replace X := X.pk 2 |>.pk 2
  refine wp_loop_fn hl121 (fun s U w => ∃ (A125 : Option Addr) (n126 : Nat) (c127 : Nat), FR 24 [] U [(0, (pP g106)), (3, .slice A125 n126 c127), (11, .slice A107 n108 c109), (12, .int .i64 (x105.f0.length : Int)), (13, .int .i64 s.2)] ∧ SH r (blk g106 66 [.slice A107 n108 c109, .int .i64 x105.f1, .int .i64 x105.f2, .bool x105.f3, .int .i64 x105.f4] :: own2 kp72 (kI .u8) 5 (fun x : S72 => x.f1) 72 A107 n108 c109 x105.f0 :: own kS 9 A125 n126 c127 s.1 :: L) w) ⟨none, 0, 0, J.sub _ rfl, X⟩ ?_
  intro N121 s121 o121 G N121_ T121_ U w hLab
  obtain ⟨l128, x129⟩ := s121
  replace G : files_Store_List_l1 x105 l128 x129 = some o121 := G
  unfold files_Store_List_l1 at G
  try dsimp only at hLab
  obtain ⟨A125, n126, c127, J, X⟩ := hLab
  refine ws fun K130 hK130 => ?_
  refine x_v J (r_ltI rfl (J.ev rfl) (J.ev rfl)) rfl fun U J => ?_
  refine wn (hK130 _ _ ?_)
  refine wp_seq_k fun K131 hK131 => ?_
  refine c_if J rfl (fun hb132 => ?_) fun hb132 => ?_
  ·replace G := ift hb132 G
   refine wp_skip ?_
   refine hK131 _ _ ?_
   refine wp_seq_k fun K133 hK133 => ?_
   refine wp_block_k fun Kx134 hKx134 => ?_
   refine ws fun K135 hK135 => ?_
   obtain ⟨x136, h137, G⟩ := bnd G
   refine x_ia' uu64 sz72 (X.rd2L 1 rfl) h137 J (fun U J => ?_) rfl
   obtain ⟨cs, hV, hc138⟩ := el (X.rd2L 1 rfl) h137
   obtain ⟨⟨A139, n140, c141⟩, hV, h142⟩ := hV
   obtain rfl := hV
   refine x_lda' (cs := [str x136.f0, .slice A139 n140 c141, .int .i64 x136.f2]) uu72 sz72 (fun j u h => by rw [ea_add]; exact hc138 _ _ h) J (fun U J => ?_) rfl
   refine x_alloc' (cs := [str [], .slice none 0 0, .int .i64 0]) zr72 J X (fun g143 U w X J => ?_) rfl
   refine x_stb' 0 sz72 J X rfl (fun  U w X J => ?_) rfl
   refine wn (hK135 _ _ ?_)
   refine wp_reg ?_
   refine x_m J rfl fun U J => ?_
   refine x_fab' fa72_0 J (fun U J => ?_) rfl
   refine x_ld' uu9 (X.cell 0 rfl 0 _ rfl) J (fun U J => ?_) rfl
   refine x_bsl' (d := kS) (e := 9) (ps := #[(0, str x136.f0)]) (cells := [str x136.f0]) (xs := [x136.f0]) (fun w => by kernel_rfl) rfl ⟨[str x136.f0], _, rfl, rfl, rfl⟩ J X (fun g144 U w X J => ?_) rfl
   obtain ⟨h145, G⟩ := chk_some G
   have hr := X.rd 0 rfl
   refine x_app' 4 inf9 uu42 J X hr.1 hr.2.1 h145 rfl (fun A146 n147 c148 U w X J => ?_) rfl
   refine x_m J rfl fun U J => ?_
   refine wpList_nil ?_
   refine hKx134 _ _ ?_
   refine hK133 _ _ ?_
   refine wp_reg ?_
   obtain ⟨x149, h150, G⟩ := ltt_ G
   refine x_v (v := .int .i64 x149) J (rv_i h150 (r_add rfl (J.ev rfl) (J.ev rfl))) rfl fun U J => ?_
   refine x_m J rfl fun U J => ?_
   refine wpList_nil ?_
   replace X := X.drop 1 |>.drop 1 |>.pk 2 |>.pk 2
   cases G
   exact ⟨_, N121_ _ rfl, A146, n147, c148, J.sub _ rfl, X⟩
  replace G := iff' hb132 G
  refine wp_exit ?_
  cases G
  exact hx121_0 l128 (T121_ _ rfl) A125 n126 c127 U w (J.sub _ rfl) X
theorem F_files_New {r : World} {L : List HP} {w : World} (a0 : Int) {y : ((Option S66) × Int)} (G : files_New a0 = some y) (X : SH r (L) w) :
  Ret Tryz.prog 8 #[.int .i64 a0] w fun v w' => ∃ (p0 : Option Addr), v = .tuple #[(.pointer p0), (.int .i64 y.2)] ∧ SH r (optP (obj66) p0 y.1 :: L) w' := by
 refine enter Tryz.func8 rfl Tryz.ntmps8 [(0, .int .i64 a0)] rfl (by simp) ?_
 intro U J Qf hQ hQn
 unfold files_New at G
 refine ws fun K100 hK100 => ?_
 refine x_m J rfl fun U J => ?_
 refine x_m J rfl fun U J => ?_
 refine wn (hK100 _ _ ?_)
 refine wp_seq_k fun K101 hK101 => ?_
 refine wp_seq_k fun K102 hK102 => ?_
 have hj1 : ∀ (b103 : Bool), files_New_j1 a0 b103 = some y → ∀ (U : Act) (w : World), FR 13 [] U [(0, .int .i64 a0), (9, .bool b103)] → SH r (L) w → K102 U w := by
  intro b103 G U w J X
  unfold files_New_j1 at G
  refine hK102 _ _ ?_
  refine c_if J rfl (fun hb104 => ?_) fun hb104 => ?_
  ·replace G := ift hb104 G
   refine ws fun K105 hK105 => ?_
   refine x_m J rfl fun U J => ?_
   refine x_m J rfl fun U J => ?_
   refine wn (hK105 _ _ ?_)
   refine wp_ret ?_
   replace X := SH.optN (obj66) X
   cases G
   refine hQ _ _ ?_
   refine lv2 Tryz.results8 J rfl rfl ?_
   exact ⟨none, rfl, X⟩
  replace G := iff' hb104 G
  refine wp_skip ?_
  refine hK101 _ _ ?_
  refine ws fun K106 hK106 => ?_
  refine x_m J rfl fun U J => ?_
  refine x_v (v := .agg #[.slice none 0 0, .int .i64 a0, .int .i64 0, .bool false, .int .i64 0]) J (r_build (ps := #[(1, .int .i64 a0)]) rfl (mapev2 J rfl) (fun w => by kernel_rfl)) rfl fun U J => ?_
  refine x_box' J X (fun g107 U w X J => ?_) rfl
  refine x_m J rfl fun U J => ?_
  refine x_m J rfl fun U J => ?_
  refine wn (hK106 _ _ ?_)
  refine wp_ret ?_
  replace X := own2_nil (dp := kp72) (d := (kI .u8)) (e' := 5) (g := (fun x : S72 => x.f1)) (e := 72) X
  replace X := X.pk 1
  replace X := obj66_mk (x := (⟨[], a0, 0, false, 0⟩ : S66)) X
  replace X := SH.optS X
  cases G
  refine hQ _ _ ?_
  refine lv2 Tryz.results8 J rfl rfl ?_
  exact ⟨some ⟨g107, 0, none⟩, rfl, X⟩
 refine wp_reg ?_
 refine x_m J rfl fun U J => ?_
 refine x_v J (r_ltI rfl (J.ev rfl) (J.ev rfl)) rfl fun U J => ?_
 refine x_m J rfl fun U J => ?_
 refine bcase (b := decide (a0 < 1)) (fun hb108 => ?_) fun hb108 => ?_
 ·replace G := ift hb108 G
  refine xO 2 hb108 J rfl fun U J => ?_
  refine x_pickt' hb108 J (fun U J => ?_) rfl
  refine wpList_nil ?_
  exact hj1 true G U w (J.sub _ rfl) X
 replace G := iff' hb108 G
 refine x_on' hb108 J ?_ rfl
 refine x_m J rfl fun U J => ?_
 refine x_on' hb108 J ?_ rfl
 refine x_v J (r_gtI rfl (J.ev rfl) (J.ev rfl)) rfl fun U J => ?_
 refine x_pickf' hb108 J (fun U J => ?_) rfl
 refine wpList_nil ?_
 exact hj1 (decide (16777216 < a0)) G U w (J.sub _ rfl) X
theorem F_files_Store_Append {r : World} {L : List HP} {w : World} (a0 : (Option S66)) (a1 : (List UInt8)) (a2 : (List Int)) (p0 : Option Addr) (A2 : Option Addr) (n2 : Nat) (c2 : Nat) {y : (Int × (Option S66))} (G : files_Store_Append a0 a1 a2 = some y) (ha2 : RdL L (kI .u8) A2 n2 c2 a2) (X : SH r (optP (obj66) p0 a0 :: L) w) :
  Ret Tryz.prog 9 #[.pointer p0, str a1, .slice A2 n2 c2] w fun v w' => v = .int .i64 y.1 ∧ SH r (optP (obj66) p0 y.2 :: L) w' := by
 refine enter Tryz.func9 rfl Tryz.ntmps9 [(0, .pointer p0), (1, str a1), (2, .slice A2 n2 c2)] rfl (by simp) ?_
 intro U J Qf hQ hQn
 unfold files_Store_Append at G
 cases a0 with
 | none =>
  have hU := SH.unoptN X
  clear X
  obtain ⟨rfl, X⟩ := hU
  refine ws fun K100 hK100 => ?_
  refine x_m J rfl fun U J => ?_
  refine wn (hK100 _ _ ?_)
  refine wp_seq_k fun K101 hK101 => ?_
  refine ws fun K102 hK102 => ?_
  refine x_m J rfl fun U J => ?_
  refine x_m J rfl fun U J => ?_
  replace X := SH.optN (obj66) X
  obtain ⟨y103, h104, G⟩ := bnd G
  refine x_call' en20 J (F_files_Store_look (L := L) none a1 none h104 X) (fun v U w hR J => ?_) rfl
  obtain ⟨rfl, X⟩ := hR
  refine x_m J rfl fun U J => ?_
  refine wn (hK102 _ _ ?_)
  refine ws fun K105 hK105 => ?_
  refine x_m J rfl fun U J => ?_
  refine x_v J (r_neI rfl (J.ev rfl) (J.ev rfl)) rfl fun U J => ?_
  refine wn (hK105 _ _ ?_)
  refine c_if J rfl (fun hb106 => ?_) fun hb106 => ?_
  ·replace G := ift hb106 G
   refine ws fun K107 hK107 => ?_
   refine x_m J rfl fun U J => ?_
   refine x_m J rfl fun U J => ?_
   refine wn (hK107 _ _ ?_)
   refine wp_ret ?_
   replace X := SH.optN (obj66) X
   replace X := X.drop 1
   cases G
   refine hQ _ _ ?_
   refine lv Tryz.results9 J rfl ?_
   exact ⟨rfl, X⟩
  replace G := iff' hb106 G
  refine wp_skip ?_
  refine hK101 _ _ ?_
  refine ws fun K108 hK108 => ?_
  refine x_m J rfl fun U J => ?_
  refine x_m J rfl fun U J => ?_
  cases G
 | some x109 =>
  have hU := SH.unoptS X
  clear X
  obtain ⟨g110, rfl, X⟩ := hU
  obtain ⟨A111, n112, c113, X⟩ := obj66_open X
  refine ws fun K114 hK114 => ?_
  refine x_m J rfl fun U J => ?_
  refine wn (hK114 _ _ ?_)
  refine wp_seq_k fun K115 hK115 => ?_
  refine ws fun K116 hK116 => ?_
  refine x_m J rfl fun U J => ?_
  refine x_m J rfl fun U J => ?_
  replace X := X.pk 1 |>.pk 1
  replace X := obj66_mk (x := x109) X
  replace X := SH.optS X
  obtain ⟨y117, h118, G⟩ := bnd G
  refine x_call' en20 J (F_files_Store_look (L := L) (some x109) a1 (some ⟨g110, 0, none⟩) h118 X) (fun v U w hR J => ?_) rfl
  obtain ⟨rfl, X⟩ := hR
  replace X := SH.unoptP X
  obtain ⟨A119, n120, c121, X⟩ := obj66_open X
  refine x_m J rfl fun U J => ?_
  refine wn (hK116 _ _ ?_)
  refine ws fun K122 hK122 => ?_
  refine x_m J rfl fun U J => ?_
  refine x_v J (r_neI rfl (J.ev rfl) (J.ev rfl)) rfl fun U J => ?_
  refine wn (hK122 _ _ ?_)
  refine c_if J rfl (fun hb123 => ?_) fun hb123 => ?_
  ·replace G := ift hb123 G
   refine ws fun K124 hK124 => ?_
   refine x_m J rfl fun U J => ?_
   refine x_m J rfl fun U J => ?_
   refine wn (hK124 _ _ ?_)
   refine wp_ret ?_
   replace X := X.pk 1 |>.pk 1
   replace X := obj66_mk (x := x109) X
   replace X := SH.optS X
   cases G
   refine hQ _ _ ?_
   refine lv Tryz.results9 J rfl ?_
   exact ⟨rfl, X⟩
  replace G := iff' hb123 G
  refine wp_skip ?_
  refine hK115 _ _ ?_
  refine ws fun K125 hK125 => ?_
  refine x_m J rfl fun U J => ?_
  refine x_m J rfl fun U J => ?_
  replace X := X.pk 1 |>.pk 1
  obtain ⟨y126, h127, G⟩ := bnd G
  refine x_call' en21 J (F_files_Store_find (L := L) x109 a1 g110 A119 n120 c121 h127 X) (fun v U w hR J => ?_) rfl
  obtain ⟨rfl, X⟩ := hR
  refine x_m J rfl fun U J => ?_
  refine x_v J (r_extract rfl (J.ev rfl) rfl) rfl fun U J => ?_
  refine x_v J (r_extract rfl (J.ev rfl) rfl) rfl fun U J => ?_
  refine x_m J rfl fun U J => ?_
  refine x_m J rfl fun U J => ?_
  refine wn (hK125 _ _ ?_)
  refine wp_seq_k fun K128 hK128 => ?_
  refine wp_seq_k fun K129 hK129 => ?_
  have hj1 : ∀ (b130 : Bool), files_Store_Append_j1 a1 a2 x109 y126 b130 = some y → ∀ (A131 : Option Addr) (n132 : Nat) (c133 : Nat) (U : Act) (w : World), FR 80 [] U [(0, (pP g110)), (1, str a1), (2, .slice A2 n2 c2), (8, .int .i64 y126.1), (9, .bool y126.2), (44, .bool b130)] → SH r (blk g110 66 [.slice A131 n132 c133, .int .i64 x109.f1, .int .i64 x109.f2, .bool x109.f3, .int .i64 x109.f4] :: own2 kp72 (kI .u8) 5 (fun x : S72 => x.f1) 72 A131 n132 c133 x109.f0 :: L) w → K129 U w := by
   intro b130 G A131 n132 c133 U w J X
   unfold files_Store_Append_j1 at G
   refine hK129 _ _ ?_
   refine c_if J rfl (fun hb134 => ?_) fun hb134 => ?_
   ·replace G := ift hb134 G
    refine ws fun K135 hK135 => ?_
    refine x_m J rfl fun U J => ?_
    refine wn (hK135 _ _ ?_)
    refine wp_ret ?_
    replace X := X.pk 1 |>.pk 1
    replace X := obj66_mk (x := x109) X
    replace X := SH.optS X
    cases G
    refine hQ _ _ ?_
    refine lv Tryz.results9 J rfl ?_
    exact ⟨rfl, X⟩
   replace G := iff' hb134 G
   refine wp_skip ?_
   refine hK128 _ _ ?_
   refine ws fun K136 hK136 => ?_
   refine x_m J rfl fun U J => ?_
   replace X := X.pk 1 |>.pk 1
   replace X := obj66_mk (x := x109) X
   obtain ⟨y137, h138, G⟩ := bnd G
   refine x_call' en23 J (F_files_Store_begin (L := L) x109 g110 h138 X) (fun v U w hR J => ?_) rfl
   obtain ⟨rfl, X⟩ := hR
   obtain ⟨A139, n140, c141, X⟩ := obj66_open X
   refine x_m J rfl fun U J => ?_
   refine wn (hK136 _ _ ?_)
   refine wp_seq_k fun K142 hK142 => ?_
   have hj2 : ∀ (l143 : (List S72)), files_Store_Append_j2 a2 y126 y137 l143 = some y → ∀ (A144 : Option Addr) (n145 : Nat) (c146 : Nat) (U : Act) (w : World), FR 80 [] U [(0, (pP g110)), (2, .slice A2 n2 c2), (8, .int .i64 y126.1), (10, .bool y137.1)] → SH r (blk g110 66 [.slice A144 n145 c146, .int .i64 y137.2.f1, .int .i64 y137.2.f2, .bool y137.2.f3, .int .i64 y137.2.f4] :: own2 kp72 (kI .u8) 5 (fun x : S72 => x.f1) 72 A144 n145 c146 l143 :: L) w → K142 U w := by
    intro l143 G A144 n145 c146 U w J X
    unfold files_Store_Append_j2 at G
    refine hK142 _ _ ?_
    refine wp_seq_k fun K147 hK147 => ?_
    refine wp_draw [0, 1, 3, 7, 0, 0, 32, 96, 224, 0, 992, 2016, 4064, 0, 16352, 32767, 65535, 131071] [14, 17] rfl J X (by kernel_rfl) (by kernel_rfl) (by kernel_rfl) (by kernel_rfl) fun w X => ?_
    obtain ⟨x148, h149, G⟩ := bnd G
    have hS_172 := X
    replace X := X.pk 1
    obtain ⟨ps173, A150, n151, c152, h153, h154, X⟩ := own2_out X h149
    obtain ⟨cs, hV, hc155⟩ := el (X.rd 0 rfl) h154
    obtain rfl := hV
    refine ⟨[(0, (pP g110)), (1, (pP g110)), (2, (pP g110)), (3, .slice A144 n145 c146), (4, .int .i64 y126.1), (5, (pP g110)), (6, (pP g110)), (7, (pP g110)), (8, .slice A144 n145 c146), (9, .int .i64 y126.1), (10, .pointer (some (ea A144 (y126.1.toNat * 3)))), (11, .pointer (some (ea A144 (y126.1.toNat * 3 + 1)))), (12, .slice A150 n151 c152), (13, .slice A2 n2 c2)], ?_⟩
    refine dF [0, 1, 2, 3, 4, 5, 6, 7, 8, 9, 10, 11, 12, 13] [14] (by kernel_rfl) ⟨pm rfl, pt [(61, (pP g110))] rfl (fun U J => r_nilCheck rfl (J.ev rfl)), pt [(62, (pP g110))] rfl (fun U J => y_fab fa66_0 J rfl rfl), pt [(63, (pP g110))] rfl (fun U J => y_ld uu64 (hS_172.cell 0 rfl 0 _ rfl) J rfl rfl rfl), pm rfl, pm rfl, pt [(66, (pP g110))] rfl (fun U J => r_nilCheck rfl (J.ev rfl)), pt [(67, (pP g110))] rfl (fun U J => y_fab fa66_0 J rfl rfl), pt [(68, (pP g110))] rfl (fun U J => y_ld uu64 (hS_172.cell 0 rfl 0 _ rfl) J rfl rfl rfl), pm rfl, pt [(69, .slice A144 n145 c146), (70, .int .i64 y126.1)] rfl (fun U J => y_ia uu64 sz72 (hS_172.rd2L 1 rfl) h149 J rfl rfl rfl), pt [(71, .pointer (some (ea A144 (y126.1.toNat * 3))))] rfl (fun U J => y_fae (m := y126.1.toNat * 3) fa72_1 J rfl rfl), pt [(72, .pointer (some (ea A144 (y126.1.toNat * 3 + 1))))] rfl (fun U J => y_ld uu29 (hc155 1 _ rfl) J rfl rfl rfl), pm rfl, trivial⟩ ⟨et [(73, .slice A150 n151 c152), (74, .slice A2 n2 c2)] rfl (fun U J K hK => ?_), trivial⟩
    obtain ⟨h156, G⟩ := chk_some G
    have hr := X.rdl 4 ha2 rfl
    refine z_app' 1 inf5 uu29 J X hr.1 hr.2.1 h156 rfl (fun A157 n158 c159 w X => ?_) rfl
    refine hK _ [(15, .pointer (some (ea A144 (y126.1.toNat * 3)))), (16, .pointer (some (ea A144 (y126.1.toNat * 3 + 1))))] _ rfl ?_
    refine dF [0, 1, 2, 3, 4, 15, 16] [17] (by kernel_rfl) ⟨pm rfl, pt [(61, (pP g110))] rfl (fun U J => r_nilCheck rfl (J.ev rfl)), pt [(62, (pP g110))] rfl (fun U J => y_fab fa66_0 J rfl rfl), pt [(63, (pP g110))] rfl (fun U J => y_ld uu64 (X.cell 3 rfl 0 _ rfl) J rfl rfl rfl), pm rfl, pt [(64, .slice A144 n145 c146), (65, .int .i64 y126.1)] rfl (fun U J => y_ia uu64 sz72 (X.rdp 1 rfl h153) h149 J rfl rfl rfl), pt [(76, .pointer (some (ea A144 (y126.1.toNat * 3))))] rfl (fun U J => y_fae (m := y126.1.toNat * 3) fa72_1 J rfl rfl), trivial⟩ ⟨et [(75, .slice A157 n158 c159), (77, .pointer (some (ea A144 (y126.1.toNat * 3 + 1))))] rfl (fun U J K hK => ?_), trivial⟩
    refine z_sto (z' := ((⟨x148.f0, x148.f1 ++ a2, x148.f2⟩ : S72), A157, n158, c159)) (off := 1) (vs := [.slice A157 n158 c159]) 1 sz29 J X rfl (at_some h154).2.2 (fun c h => by cases h; rfl) (fun  w X => ?_) rfl rfl rfl rfl rfl rfl
    replace X := X.pk 2 |>.pk 2 |>.pk 2
    replace X := own2_in (g := (fun x : S72 => x.f1)) (x' := (⟨x148.f0, x148.f1 ++ a2, x148.f2⟩ : S72)) h153 h154 X
    refine hK _ [] _ rfl ?_
    refine dEnd [] (by kernel_rfl) trivial ⟨by kernel_rfl, by kernel_rfl⟩ [(0, (pP g110)), (10, .bool y137.1)] rfl (fun U J => ?_)
    refine hK147 _ _ ?_
    refine wp_seq_k fun K160 hK160 => ?_
    refine ws fun K161 hK161 => ?_
    refine x_m J rfl fun U J => ?_
    refine x_v J (r_not rfl (J.ev rfl)) rfl fun U J => ?_
    refine wn (hK161 _ _ ?_)
    refine c_if J rfl (fun hb162 => ?_) fun hb162 => ?_
    ·replace G := ift hb162 G
     refine ws fun K163 hK163 => ?_
     refine x_m J rfl fun U J => ?_
     refine wn (hK163 _ _ ?_)
     refine wp_ret ?_
     replace X := X.pk 1
     replace X := obj66_mk (x := (⟨l143.set y126.1.toNat (⟨x148.f0, x148.f1 ++ a2, x148.f2⟩ : S72), y137.2.f1, y137.2.f2, y137.2.f3, y137.2.f4⟩ : S66)) X
     replace X := SH.optS X
     cases G
     refine hQ _ _ ?_
     refine lv Tryz.results9 J rfl ?_
     exact ⟨rfl, X⟩
    replace G := iff' hb162 G
    refine wp_skip ?_
    refine hK160 _ _ ?_
    refine ws fun K164 hK164 => ?_
    refine x_m J rfl fun U J => ?_
    refine wn (hK164 _ _ ?_)
    refine wp_ret ?_
    replace X := X.pk 1
    replace X := obj66_mk (x := (⟨l143.set y126.1.toNat (⟨x148.f0, x148.f1 ++ a2, x148.f2⟩ : S72), y137.2.f1, y137.2.f2, y137.2.f3, y137.2.f4⟩ : S66)) X
    replace X := SH.optS X
    cases G
    refine hQ _ _ ?_
    refine lv Tryz.results9 J rfl ?_
    exact ⟨rfl, X⟩
   refine ws fun K165 hK165 => ?_
   refine x_m J rfl fun U J => ?_
   refine x_v J (r_not rfl (J.ev rfl)) rfl fun U J => ?_
   refine wn (hK165 _ _ ?_)
   refine c_if J rfl (fun hb166 => ?_) fun hb166 => ?_
   ·replace G := ift hb166 G
    refine wp_reg ?_
    refine x_m J rfl fun U J => ?_
    refine x_m J rfl fun U J => ?_
    refine x_v J (r_nilCheck rfl (J.ev rfl)) rfl fun U J => ?_
    refine x_fab' fa66_0 J (fun U J => ?_) rfl
    refine x_ld' uu64 (X.cell 0 rfl 0 _ rfl) J (fun U J => ?_) rfl
    refine x_m J rfl fun U J => ?_
    refine x_m J rfl fun U J => ?_
    refine x_v (v := .agg #[str a1, .slice none 0 0, .int .i64 0]) J (r_build (ps := #[(0, str a1)]) rfl (mapev2 J rfl) (fun w => by kernel_rfl)) rfl fun U J => ?_
    replace X := SH.nil_own (d := (kI .u8)) (e := 5) X
    refine x_bsl' (d := kp72) (e := 72) (ps := #[(0, .agg #[str a1, .slice none 0 0, .int .i64 0])]) (cells := [str a1, .slice none 0 0, .int .i64 0]) (xs := [((⟨a1, [], 0⟩ : S72), none, 0, 0)]) (fun w => by kernel_rfl) rfl ⟨[str a1, .slice none 0 0, .int .i64 0], _, rfl, rfl, rfl⟩ J X (fun g167 U w X J => ?_) rfl
    replace X := own2_one (g := (fun x : S72 => x.f1)) (x := (⟨a1, [], 0⟩ : S72)) X
    replace X := X.pk 2
    obtain ⟨y168, h169, G⟩ := bnd G
    refine x_call' en24 J (F_ins (L := blk g110 66 [.slice A139 n140 c141, .int .i64 y137.2.f1, .int .i64 y137.2.f2, .bool y137.2.f3, .int .i64 y137.2.f4] :: L) y137.2.f0 y126.1 [(⟨a1, [], 0⟩ : S72)] h169 X) (fun v U w hR J => ?_) rfl
    obtain ⟨A170, n171, c172, rfl, X⟩ := hR
    refine x_v J (r_nilCheck rfl (J.ev rfl)) rfl fun U J => ?_
    refine x_fab' fa66_0 J (fun U J => ?_) rfl
    refine x_stb' 1 sz64 J X rfl (fun  U w X J => ?_) rfl
    refine wpList_nil ?_
    exact hj2 y168 G A170 n171 c172 U w (J.sub _ rfl) X
   replace G := iff' hb166 G
   refine wp_skip ?_
   exact hj2 y137.2.f0 G A139 n140 c141 U w (J.sub _ rfl) X
  refine wp_draw [0, 1, 0, 4, 12, 28, 0, 64, 252, 511, 1023, 2047, 4095, 8191, 16383, 32767, 65535, 131071, 262143, 524287, 1048575, 2097151] [7] rfl J X (by kernel_rfl) (by kernel_rfl) (by kernel_rfl) (by kernel_rfl) fun w X => ?_
  refine ⟨[(0, .slice A2 n2 c2), (1, .int .i64 (a2.length : Int)), (2, (pP g110)), (3, (pP g110)), (4, .pointer (some ⟨g110, 1, none⟩)), (5, .int .i64 x109.f1), (6, (pP g110))], ?_⟩
  refine dF [0, 1, 2, 3, 4, 5, 6] [7] (by kernel_rfl) ⟨pm rfl, pt [(23, .slice A2 n2 c2)] rfl (fun U J => y_len uu29 (X.rdl 2 ha2 rfl).2.1 J rfl rfl), pm rfl, pt [(25, (pP g110))] rfl (fun U J => r_nilCheck rfl (J.ev rfl)), pt [(26, (pP g110))] rfl (fun U J => y_fab fa66_1 J rfl rfl), pt [(27, .pointer (some ⟨g110, 1, none⟩))] rfl (fun U J => y_ld uu3 (X.cell 0 rfl 1 _ rfl) J rfl rfl rfl), pm rfl, trivial⟩ ⟨et [(29, (pP g110))] rfl (fun U J K hK => ?_), trivial⟩
  replace X := X.pk 1 |>.pk 1
  replace X := obj66_mk (x := x109) X
  replace X := SH.optS X
  obtain ⟨y173, h174, G⟩ := bnd G
  refine z_call' en22 J (F_files_Store_Used (L := L) (some x109) (some ⟨g110, 0, none⟩) h174 X) (fun v w hR => ?_) rfl
  obtain ⟨rfl, X⟩ := hR
  replace X := SH.unoptP X
  obtain ⟨A175, n176, c177, X⟩ := obj66_open X
  obtain ⟨x178, h179, G⟩ := ltt_ G
  refine bcase (b := decide (x178 < (a2.length : Int))) (fun hb180 => ?_) fun hb180 => ?_
  ·replace G := ift hb180 G
   refine hK _ [(8, .int .i64 x178), (9, .bool (decide (x178 < (a2.length : Int)))), (10, .bool (decide (x178 < (a2.length : Int)))), (11, undef), (12, undef), (13, undef), (14, undef), (15, undef), (16, undef), (17, undef), (18, undef), (19, undef), (20, undef), (21, .bool true)] _ rfl ?_
   refine dEnd [0, 1, 2, 3, 4, 5, 8, 9, 10, 11, 12, 13, 14, 15, 16, 17, 18, 19, 20, 21] (by kernel_rfl) ⟨pm rfl, pt [(23, .slice A2 n2 c2)] rfl (fun U J => y_len uu29 (X.rdl 2 ha2 rfl).2.1 J rfl rfl), pm rfl, pt [(25, (pP g110))] rfl (fun U J => r_nilCheck rfl (J.ev rfl)), pt [(26, (pP g110))] rfl (fun U J => y_fab fa66_1 J rfl rfl), pt [(27, .pointer (some ⟨g110, 1, none⟩))] rfl (fun U J => y_ld uu3 (X.cell 0 rfl 1 _ rfl) J rfl rfl rfl), pt [(28, .int .i64 x109.f1), (30, .int .i64 y173)] rfl (fun U J => (rv_i h179 (r_sub rfl (J.ev rfl) (J.ev rfl)) : RunV _ _ _ _ (.int .i64 x178))), pt [(24, .int .i64 (a2.length : Int)), (31, .int .i64 x178)] rfl (fun U J => r_gtI rfl (J.ev rfl) (J.ev rfl)), pm rfl, puOff rfl rfl rfl rfl [(9, .bool y126.2), (33, .bool (decide (x178 < (a2.length : Int))))] rfl hb180 rfl, puOff rfl rfl rfl rfl [(33, .bool (decide (x178 < (a2.length : Int)))), (34, undef)] rfl hb180 rfl, puOff rfl rfl rfl rfl [(33, .bool (decide (x178 < (a2.length : Int)))), (35, undef)] rfl hb180 rfl, puOffU rfl rfl rfl rfl [(0, (pP g110)), (36, undef)] rfl rfl, puOffU rfl rfl rfl rfl [(36, undef), (37, undef)] rfl rfl, puOffU rfl rfl rfl rfl [(36, undef), (38, undef)] rfl rfl, puOffU rfl rfl rfl rfl [(36, undef), (39, undef)] rfl rfl, puOffU rfl rfl rfl rfl [(36, undef), (40, undef)] rfl rfl, puOffU rfl rfl rfl rfl [(36, undef), (41, undef)] rfl rfl, puOff rfl rfl rfl rfl [(33, .bool (decide (x178 < (a2.length : Int)))), (36, undef), (42, undef)] rfl hb180 rfl, pt [(33, .bool (decide (x178 < (a2.length : Int)))), (43, undef)] rfl (fun U J => y_pickt hb180 J rfl rfl rfl), trivial⟩ ⟨by kernel_rfl, by kernel_rfl⟩ [(0, (pP g110)), (1, str a1), (2, .slice A2 n2 c2), (8, .int .i64 y126.1), (9, .bool y126.2), (44, .bool true)] rfl (fun U J => ?_)
   exact hj1 true G A175 n176 c177 U w (J.sub _ rfl) X
  replace G := iff' hb180 G
  refine bcase (b := !y126.2) (fun hb181 => ?_) fun hb181 => ?_
  ·replace G := ift hb181 G
   refine hK _ [(8, .int .i64 x178), (9, .bool (decide (x178 < (a2.length : Int)))), (10, .bool (decide (x178 < (a2.length : Int)))), (11, .bool y126.2), (12, .bool (!y126.2)), (13, .bool (!y126.2)), (14, (pP g110)), (15, (pP g110)), (16, (pP g110)), (17, .slice A175 n176 c177), (18, .int .i64 (x109.f0.length : Int)), (19, .bool (decide (500 ≤ (x109.f0.length : Int)))), (20, .bool (decide (500 ≤ (x109.f0.length : Int)))), (21, .bool (decide (500 ≤ (x109.f0.length : Int))))] _ rfl ?_
   refine dEnd [0, 1, 2, 3, 4, 5, 8, 9, 10, 11, 12, 13, 14, 15, 16, 17, 18, 19, 20, 21] (by kernel_rfl) ⟨pm rfl, pt [(23, .slice A2 n2 c2)] rfl (fun U J => y_len uu29 (X.rdl 2 ha2 rfl).2.1 J rfl rfl), pm rfl, pt [(25, (pP g110))] rfl (fun U J => r_nilCheck rfl (J.ev rfl)), pt [(26, (pP g110))] rfl (fun U J => y_fab fa66_1 J rfl rfl), pt [(27, .pointer (some ⟨g110, 1, none⟩))] rfl (fun U J => y_ld uu3 (X.cell 0 rfl 1 _ rfl) J rfl rfl rfl), pt [(28, .int .i64 x109.f1), (30, .int .i64 y173)] rfl (fun U J => (rv_i h179 (r_sub rfl (J.ev rfl) (J.ev rfl)) : RunV _ _ _ _ (.int .i64 x178))), pt [(24, .int .i64 (a2.length : Int)), (31, .int .i64 x178)] rfl (fun U J => r_gtI rfl (J.ev rfl) (J.ev rfl)), pm rfl, puOn rfl rfl rfl rfl [(9, .bool y126.2), (33, .bool (decide (x178 < (a2.length : Int))))] rfl hb180 (fun U J => y_move J rfl rfl) rfl, puOn rfl rfl rfl rfl [(33, .bool (decide (x178 < (a2.length : Int)))), (34, .bool y126.2)] rfl hb180 (fun U J => r_not rfl (J.ev rfl)) rfl, puOn rfl rfl rfl rfl [(33, .bool (decide (x178 < (a2.length : Int)))), (35, .bool (!y126.2))] rfl hb180 (fun U J => y_move J rfl rfl) rfl, puOn rfl rfl rfl rfl [(0, (pP g110)), (36, .bool (!y126.2))] rfl hb181 (fun U J => y_move J rfl rfl) rfl, puOn rfl rfl rfl rfl [(36, .bool (!y126.2)), (37, (pP g110))] rfl hb181 (fun U J => r_nilCheck rfl (J.ev rfl)) rfl, puOn rfl rfl rfl rfl [(36, .bool (!y126.2)), (38, (pP g110))] rfl hb181 (fun U J => y_fab fa66_0 J rfl rfl) rfl, puOn rfl rfl rfl rfl [(36, .bool (!y126.2)), (39, (pP g110))] rfl hb181 (fun U J => y_ld uu64 (X.cell 0 rfl 0 _ rfl) J rfl rfl rfl) rfl, puOn rfl rfl rfl rfl [(36, .bool (!y126.2)), (40, .slice A175 n176 c177)] rfl hb181 (fun U J => y_len uu64 (X.rd2L 1 rfl).2.1 J rfl rfl) rfl, puOn rfl rfl rfl rfl [(36, .bool (!y126.2)), (41, .int .i64 (x109.f0.length : Int))] rfl hb181 (fun U J => r_geI rfl (J.ev rfl) (J.ev rfl)) rfl, puOn rfl rfl rfl rfl [(33, .bool (decide (x178 < (a2.length : Int)))), (36, .bool (!y126.2)), (42, .bool (decide (500 ≤ (x109.f0.length : Int))))] rfl hb180 (fun U J => y_pickt hb181 J rfl rfl rfl) rfl, pt [(33, .bool (decide (x178 < (a2.length : Int)))), (43, .bool (decide (500 ≤ (x109.f0.length : Int))))] rfl (fun U J => y_pickf hb180 J rfl rfl rfl), trivial⟩ ⟨by kernel_rfl, by kernel_rfl⟩ [(0, (pP g110)), (1, str a1), (2, .slice A2 n2 c2), (8, .int .i64 y126.1), (9, .bool y126.2), (44, .bool (decide (500 ≤ (x109.f0.length : Int))))] rfl (fun U J => ?_)
   exact hj1 (decide (500 ≤ (x109.f0.length : Int))) G A175 n176 c177 U w (J.sub _ rfl) X
  replace G := iff' hb181 G
  refine hK _ [(8, .int .i64 x178), (9, .bool (decide (x178 < (a2.length : Int)))), (10, .bool (decide (x178 < (a2.length : Int)))), (11, .bool y126.2), (12, .bool (!y126.2)), (13, .bool (!y126.2)), (14, undef), (15, undef), (16, undef), (17, undef), (18, undef), (19, undef), (20, .bool false), (21, .bool false)] _ rfl ?_
  refine dEnd [0, 1, 2, 3, 4, 5, 8, 9, 10, 11, 12, 13, 14, 15, 16, 17, 18, 19, 20, 21] (by kernel_rfl) ⟨pm rfl, pt [(23, .slice A2 n2 c2)] rfl (fun U J => y_len uu29 (X.rdl 2 ha2 rfl).2.1 J rfl rfl), pm rfl, pt [(25, (pP g110))] rfl (fun U J => r_nilCheck rfl (J.ev rfl)), pt [(26, (pP g110))] rfl (fun U J => y_fab fa66_1 J rfl rfl), pt [(27, .pointer (some ⟨g110, 1, none⟩))] rfl (fun U J => y_ld uu3 (X.cell 0 rfl 1 _ rfl) J rfl rfl rfl), pt [(28, .int .i64 x109.f1), (30, .int .i64 y173)] rfl (fun U J => (rv_i h179 (r_sub rfl (J.ev rfl) (J.ev rfl)) : RunV _ _ _ _ (.int .i64 x178))), pt [(24, .int .i64 (a2.length : Int)), (31, .int .i64 x178)] rfl (fun U J => r_gtI rfl (J.ev rfl) (J.ev rfl)), pm rfl, puOn rfl rfl rfl rfl [(9, .bool y126.2), (33, .bool (decide (x178 < (a2.length : Int))))] rfl hb180 (fun U J => y_move J rfl rfl) rfl, puOn rfl rfl rfl rfl [(33, .bool (decide (x178 < (a2.length : Int)))), (34, .bool y126.2)] rfl hb180 (fun U J => r_not rfl (J.ev rfl)) rfl, puOn rfl rfl rfl rfl [(33, .bool (decide (x178 < (a2.length : Int)))), (35, .bool (!y126.2))] rfl hb180 (fun U J => y_move J rfl rfl) rfl, puOff rfl rfl rfl rfl [(0, (pP g110)), (36, .bool (!y126.2))] rfl hb181 rfl, puOff rfl rfl rfl rfl [(36, .bool (!y126.2)), (37, undef)] rfl hb181 rfl, puOff rfl rfl rfl rfl [(36, .bool (!y126.2)), (38, undef)] rfl hb181 rfl, puOff rfl rfl rfl rfl [(36, .bool (!y126.2)), (39, undef)] rfl hb181 rfl, puOff rfl rfl rfl rfl [(36, .bool (!y126.2)), (40, undef)] rfl hb181 rfl, puOff rfl rfl rfl rfl [(36, .bool (!y126.2)), (41, undef)] rfl hb181 rfl, puOn rfl rfl rfl rfl [(33, .bool (decide (x178 < (a2.length : Int)))), (36, .bool (!y126.2)), (42, undef)] rfl hb180 (fun U J => y_pickf hb181 J rfl rfl rfl) rfl, pt [(33, .bool (decide (x178 < (a2.length : Int)))), (43, .bool false)] rfl (fun U J => y_pickf hb180 J rfl rfl rfl), trivial⟩ ⟨by kernel_rfl, by kernel_rfl⟩ [(0, (pP g110)), (1, str a1), (2, .slice A2 n2 c2), (8, .int .i64 y126.1), (9, .bool y126.2), (44, .bool false)] rfl (fun U J => ?_)
  exact hj1 false G A175 n176 c177 U w (J.sub _ rfl) X
theorem F_files_Store_Read {r : World} {L : List HP} {w : World} (a0 : (Option S66)) (a1 : (List UInt8)) (p0 : Option Addr) {y : ((List Int) × Int)} (G : files_Store_Read a0 a1 = some y) (X : SH r (optP (obj66) p0 a0 :: L) w) :
  Ret Tryz.prog 17 #[.pointer p0, str a1] w fun v w' => ∃ (B0 : Option Addr) (m0 : Nat) (d0 : Nat), v = .tuple #[(.slice B0 m0 d0), (.int .i64 y.2)] ∧ SH r (own (kI .u8) 5 B0 m0 d0 y.1 :: optP (obj66) p0 a0 :: L) w' := by
 refine enter Tryz.func17 rfl Tryz.ntmps17 [(0, .pointer p0), (1, str a1)] rfl (by simp) ?_
 intro U J Qf hQ hQn
 unfold files_Store_Read at G
 cases a0 with
 | none =>
  have hU := SH.unoptN X
  clear X
  obtain ⟨rfl, X⟩ := hU
  refine ws fun K100 hK100 => ?_
  refine x_m J rfl fun U J => ?_
  refine x_m J rfl fun U J => ?_
  refine wn (hK100 _ _ ?_)
  refine wp_seq_k fun K101 hK101 => ?_
  refine ws fun K102 hK102 => ?_
  refine x_m J rfl fun U J => ?_
  refine x_m J rfl fun U J => ?_
  replace X := SH.optN (obj66) X
  obtain ⟨y103, h104, G⟩ := bnd G
  refine x_call' en20 J (F_files_Store_look (L := L) none a1 none h104 X) (fun v U w hR J => ?_) rfl
  obtain ⟨rfl, X⟩ := hR
  refine x_m J rfl fun U J => ?_
  refine wn (hK102 _ _ ?_)
  refine ws fun K105 hK105 => ?_
  refine x_m J rfl fun U J => ?_
  refine x_v J (r_neI rfl (J.ev rfl) (J.ev rfl)) rfl fun U J => ?_
  refine wn (hK105 _ _ ?_)
  refine c_if J rfl (fun hb106 => ?_) fun hb106 => ?_
  ·replace G := ift hb106 G
   refine ws fun K107 hK107 => ?_
   refine x_m J rfl fun U J => ?_
   refine x_m J rfl fun U J => ?_
   refine x_m J rfl fun U J => ?_
   refine wn (hK107 _ _ ?_)
   refine wp_ret ?_
   replace X := SH.nil_own (d := (kI .u8)) (e := 5) X
   replace X := SH.optN (obj66) X
   replace X := X.drop 2 |>.pk 1
   cases G
   refine hQ _ _ ?_
   refine lv2 Tryz.results17 J rfl rfl ?_
   exact ⟨none, 0, 0, rfl, X⟩
  replace G := iff' hb106 G
  refine wp_skip ?_
  refine hK101 _ _ ?_
  refine ws fun K108 hK108 => ?_
  refine x_m J rfl fun U J => ?_
  refine x_m J rfl fun U J => ?_
  cases G
 | some x109 =>
  have hU := SH.unoptS X
  clear X
  obtain ⟨g110, rfl, X⟩ := hU
  obtain ⟨A111, n112, c113, X⟩ := obj66_open X
  refine ws fun K114 hK114 => ?_
  refine x_m J rfl fun U J => ?_
  refine x_m J rfl fun U J => ?_
  refine wn (hK114 _ _ ?_)
  refine wp_seq_k fun K115 hK115 => ?_
  refine ws fun K116 hK116 => ?_
  refine x_m J rfl fun U J => ?_
  refine x_m J rfl fun U J => ?_
  replace X := X.pk 1 |>.pk 1
  replace X := obj66_mk (x := x109) X
  replace X := SH.optS X
  obtain ⟨y117, h118, G⟩ := bnd G
  refine x_call' en20 J (F_files_Store_look (L := L) (some x109) a1 (some ⟨g110, 0, none⟩) h118 X) (fun v U w hR J => ?_) rfl
  obtain ⟨rfl, X⟩ := hR
  replace X := SH.unoptP X
  obtain ⟨A119, n120, c121, X⟩ := obj66_open X
  refine x_m J rfl fun U J => ?_
  refine wn (hK116 _ _ ?_)
  refine ws fun K122 hK122 => ?_
  refine x_m J rfl fun U J => ?_
  refine x_v J (r_neI rfl (J.ev rfl) (J.ev rfl)) rfl fun U J => ?_
  refine wn (hK122 _ _ ?_)
  refine c_if J rfl (fun hb123 => ?_) fun hb123 => ?_
  ·replace G := ift hb123 G
   refine ws fun K124 hK124 => ?_
   refine x_m J rfl fun U J => ?_
   refine x_m J rfl fun U J => ?_
   refine x_m J rfl fun U J => ?_
   refine wn (hK124 _ _ ?_)
   refine wp_ret ?_
   replace X := SH.nil_own (d := (kI .u8)) (e := 5) X
   replace X := X.pk 2 |>.pk 2
   replace X := obj66_mk (x := x109) X
   replace X := SH.optS X
   replace X := X.pk 1
   cases G
   refine hQ _ _ ?_
   refine lv2 Tryz.results17 J rfl rfl ?_
   exact ⟨none, 0, 0, rfl, X⟩
  replace G := iff' hb123 G
  refine wp_skip ?_
  refine hK115 _ _ ?_
  refine ws fun K125 hK125 => ?_
  refine x_m J rfl fun U J => ?_
  refine x_m J rfl fun U J => ?_
  replace X := X.pk 1 |>.pk 1
  obtain ⟨y126, h127, G⟩ := bnd G
  refine x_call' en21 J (F_files_Store_find (L := L) x109 a1 g110 A119 n120 c121 h127 X) (fun v U w hR J => ?_) rfl
  obtain ⟨rfl, X⟩ := hR
  refine x_m J rfl fun U J => ?_
  refine x_v J (r_extract rfl (J.ev rfl) rfl) rfl fun U J => ?_
  refine x_v J (r_extract rfl (J.ev rfl) rfl) rfl fun U J => ?_
  refine x_m J rfl fun U J => ?_
  refine x_m J rfl fun U J => ?_
  refine wn (hK125 _ _ ?_)
  refine wp_seq_k fun K128 hK128 => ?_
  refine ws fun K129 hK129 => ?_
  refine x_m J rfl fun U J => ?_
  refine x_v J (r_not rfl (J.ev rfl)) rfl fun U J => ?_
  refine wn (hK129 _ _ ?_)
  refine c_if J rfl (fun hb130 => ?_) fun hb130 => ?_
  ·replace G := ift hb130 G
   refine ws fun K131 hK131 => ?_
   refine x_m J rfl fun U J => ?_
   refine x_m J rfl fun U J => ?_
   refine wn (hK131 _ _ ?_)
   refine wp_ret ?_
   replace X := SH.nil_own (d := (kI .u8)) (e := 5) X
   replace X := X.pk 2 |>.pk 2
   replace X := obj66_mk (x := x109) X
   replace X := SH.optS X
   replace X := X.pk 1
   cases G
   refine hQ _ _ ?_
   refine lv2 Tryz.results17 J rfl rfl ?_
   exact ⟨none, 0, 0, rfl, X⟩
  replace G := iff' hb130 G
  refine wp_skip ?_
  refine hK128 _ _ ?_
  refine ws fun K132 hK132 => ?_
  refine x_m J rfl fun U J => ?_
  refine x_v J (r_nilCheck rfl (J.ev rfl)) rfl fun U J => ?_
  refine x_fab' fa66_0 J (fun U J => ?_) rfl
  refine x_ld' uu64 (X.cell 0 rfl 0 _ rfl) J (fun U J => ?_) rfl
  refine x_m J rfl fun U J => ?_
  obtain ⟨x133, h134, G⟩ := bnd G
  refine x_ia' uu64 sz72 (X.rd2L 1 rfl) h134 J (fun U J => ?_) rfl
  refine x_fae (m := y126.1.toNat * 3) fa72_1 J (fun U J => ?_) rfl rfl rfl rfl rfl
  replace X := X.pk 1
  obtain ⟨ps138, A135, n136, c137, h138, h139, X⟩ := own2_out X h134
  obtain ⟨cs, hV, hc140⟩ := el (X.rd 0 rfl) h139
  obtain rfl := hV
  refine x_ld' uu29 (hc140 1 _ rfl) J (fun U J => ?_) rfl
  obtain ⟨y141, h142, G⟩ := bnd G
  refine x_call' en35 J (F_slices_Clone_byte_byte (L := own kp72 72 A119 n120 c121 ps138 :: own (kI .u8) 5 A135 n136 c137 x133.f1 :: rows (kI .u8) 5 (fun x : S72 => x.f1) (ps138.eraseIdx y126.1.toNat) :: blk g110 66 [.slice A119 n120 c121, .int .i64 x109.f1, .int .i64 x109.f2, .bool x109.f3, .int .i64 x109.f4] :: L) x133.f1 A135 n136 c137 h142 (RdL.own 1 rfl (X.dropN 0)) X) (fun v U w hR J => ?_) rfl
  obtain ⟨B143, m144, d145, rfl, X⟩ := hR
  refine x_m J rfl fun U J => ?_
  refine x_m J rfl fun U J => ?_
  refine wn (hK132 _ _ ?_)
  refine wp_ret ?_
  replace X := X.pk 3 |>.pk 3 |>.pk 3
  replace X := own2_in0 (g := (fun x : S72 => x.f1)) (x := x133) h138 h139 X
  replace X := X.pk 2
  replace X := obj66_mk (x := x109) X
  replace X := SH.optS X
  replace X := X.pk 1
  cases G
  refine hQ _ _ ?_
  refine lv2 Tryz.results17 J rfl rfl ?_
  exact ⟨B143, m144, d145, rfl, X⟩
noncomputable section
set_option linter.unusedSimpArgs false
def files_Store_Sync_1 (a0 : Int) (a1 : S66) : Option (S66) :=
  (at_ a1.f0 a0).bind fun x104 => (some (⟨a1.f0.set a0.toNat (⟨x104.f0, x104.f1, (x104.f1.length : Int)⟩ : S72), a1.f1, a1.f2, a1.f3, a1.f4⟩ : S66))
def files_Store_Delete_1 (a0 : Int) (a1 : S66) : Option (S66) :=
  ltt (IntKind.i64.wrap (a0 + 1)) fun x104 => ((del_ a1.f0 a0 x104).bind fun y106 => (some (⟨y106, a1.f1, a1.f2, a1.f3, a1.f4⟩ : S66)))
def files_Store_Rename_1 (a0 : Int) (a1 : S66) (a2 : (List UInt8)) : Option (S66 × (List UInt8)) :=
  (at_ a1.f0 a0).bind fun x105 => (ltt (IntKind.i64.wrap (a0 + 1)) fun x116 => (chk (x116 = a0 + 1) ((files_Store_find (⟨a1.f0.eraseIdx a0.toNat, a1.f1, a1.f2, a1.f3, a1.f4⟩ : S66) a2).bind fun y124 => (if y124.2 = true then ((at_ (a1.f0.eraseIdx a0.toNat) y124.1).bind fun x128 => (some ((⟨(a1.f0.eraseIdx a0.toNat).set y124.1.toNat (⟨a2, x105.f1, x105.f2⟩ : S72), a1.f1, a1.f2, a1.f3, a1.f4⟩ : S66), a2))) else ((ins_ (a1.f0.eraseIdx a0.toNat) y124.1 [(⟨a2, x105.f1, x105.f2⟩ : S72)]).bind fun y138 => (some ((⟨y138, a1.f1, a1.f2, a1.f3, a1.f4⟩ : S66), a2)))))))
def files_Store_Restart_b1 (x101 : S66) (l1413 : (List S72)) : Option (Int × (Option S66)) :=
  some (0, some (⟨l1413, x101.f1, 0, false, x101.f4⟩ : S66))
def files_Store_Restart_x1_0 (x101 : S66) (l1704 : (List S72)) : Option (Int × (Option S66)) :=
  files_Store_Restart_b1 x101 l1704
def files_Store_Restart_j2 (x1560 : Int) (l1776 : (List S72)) : Option (((List S72) × Int) ⊕ (((List S72)))) :=
  (at_ l1776 x1560).bind fun x1777 => (ltt (IntKind.i64.wrap (x1560 + 1)) fun x1786 => (some (.inl (l1776.set x1560.toNat (⟨x1777.f0, x1777.f1, (x1777.f1.length : Int)⟩ : S72), x1786))))
def files_Store_Restart_j3 (l1559 : (List S72)) (x1560 : Int) (x1722 : Int) (b1803 : Bool) : Option (((List S72) × Int) ⊕ (((List S72)))) :=
  if b1803 = true then ((at_ l1559 x1560).bind fun x1805 => (ltt (IntKind.i64.wrap (x1805.f2 + x1722)) fun x1816 => ((cut_ x1805.f1 0 x1816).bind fun l1818 => ((slices_Clone_byte_byte l1818).bind fun y1820 => (files_Store_Restart_j2 x1560 (l1559.set x1560.toNat (⟨x1805.f0, y1820, x1805.f2⟩ : S72))))))) else (files_Store_Restart_j2 x1560 l1559)
def files_Store_Restart_j1 (l1559 : (List S72)) (x1560 : Int) (x1722 : Int) : Option (((List S72) × Int) ⊕ (((List S72)))) :=
  if (decide (0 ≤ x1722)) = true then ((at_ l1559 x1560).bind fun x1826 => (ltt (IntKind.i64.wrap ((x1826.f1.length : Int) - x1826.f2)) fun x1837 => (files_Store_Restart_j3 l1559 x1560 x1722 (decide (x1722 < x1837))))) else (files_Store_Restart_j3 l1559 x1560 x1722 false)
def files_Store_Restart_l1 (a1 : (List Int)) (x101 : S66) (l1559 : (List S72)) (x1560 : Int) : Option (((List S72) × Int) ⊕ (((List S72)))) :=
  if (decide (x1560 < (x101.f0.length : Int))) = true then ((at_ l1559 x1560).bind fun x1713 => (if (decide (x1560 < (a1.length : Int))) = true then ((at_ a1 x1560).bind fun x1841 => (files_Store_Restart_j1 l1559 x1560 x1841)) else (files_Store_Restart_j1 l1559 x1560 0))) else (some (.inr (l1559)))
def files_Store_Restart (a0 : (Option S66)) (a1 : (List Int)) : Option (Int × (Option S66)) :=
  match a0 with | none => (some (5, none)) | some x101 => ((loop (fun s => files_Store_Restart_l1 a1 x101 s.1 s.2) (x101.f0, 0)).bind fun t => files_Store_Restart_x1_0 x101 t)
end
theorem F_files_Store_Sync_1 {r : World} {L : List HP} {w : World} (a0 : Int) (a1 : S66) (g1 : Nat) (h1 : Nat) {y : (S66)} (G : files_Store_Sync_1 a0 a1 = some y) (X : SH r (blk g1 24 [.pointer (some ⟨h1, 0, none⟩)] :: obj66 h1 a1 :: L) w) :
  Ret Tryz.prog 85 #[.int .i64 a0, (pP g1)] w fun v w' => v = .tuple #[] ∧ SH r (blk g1 24 [.pointer (some ⟨h1, 0, none⟩)] :: obj66 h1 y :: L) w' := by
 refine enter Tryz.func85 rfl Tryz.ntmps85 [(0, .int .i64 a0), (1, (pP g1))] rfl (by simp) ?_
 intro U J Qf hQ hQn
 unfold files_Store_Sync_1 at G
 replace X := X.pk 1
 obtain ⟨A100, n101, c102, X⟩ := obj66_open X
 refine wp_draw [0, 1, 3, 7, 0, 0, 32, 96, 224, 0, 992, 2016, 4064, 8160, 16383, 32767, 65535] [16] rfl J X (by kernel_rfl) (by kernel_rfl) (by kernel_rfl) (by kernel_rfl) fun w X => ?_
 obtain ⟨x103, h104, G⟩ := bnd G
 have hS_106 := X
 replace X := X.pk 1
 obtain ⟨ps107, A105, n106, c107, h108, h109, X⟩ := own2_out X h104
 obtain ⟨cs, hV, hc110⟩ := el (X.rd 0 rfl) h109
 obtain rfl := hV
 refine ⟨[(0, (pP h1)), (1, (pP h1)), (2, (pP h1)), (3, .slice A100 n101 c102), (4, .int .i64 a0), (5, (pP h1)), (6, (pP h1)), (7, (pP h1)), (8, .slice A100 n101 c102), (9, .int .i64 a0), (10, .pointer (some (ea A100 (a0.toNat * 3)))), (11, .pointer (some (ea A100 (a0.toNat * 3 + 1)))), (12, .slice A105 n106 c107), (13, .int .i64 (x103.f1.length : Int)), (14, .pointer (some (ea A100 (a0.toNat * 3)))), (15, .pointer (some (ea A100 (a0.toNat * 3 + 2))))], ?_⟩
 refine dF [0, 1, 2, 3, 4, 5, 6, 7, 8, 9, 10, 11, 12, 13, 14, 15] [16] (by kernel_rfl) ⟨pt [(1, (pP g1))] rfl (fun U J => y_ld uu24 (hS_106.cell 2 rfl 0 _ rfl) J rfl rfl rfl), pt [(3, (pP h1))] rfl (fun U J => r_nilCheck rfl (J.ev rfl)), pt [(4, (pP h1))] rfl (fun U J => y_fab fa66_0 J rfl rfl), pt [(5, (pP h1))] rfl (fun U J => y_ld uu64 (hS_106.cell 0 rfl 0 _ rfl) J rfl rfl rfl), pm rfl, pt [(1, (pP g1))] rfl (fun U J => y_ld uu24 (hS_106.cell 2 rfl 0 _ rfl) J rfl rfl rfl), pt [(8, (pP h1))] rfl (fun U J => r_nilCheck rfl (J.ev rfl)), pt [(9, (pP h1))] rfl (fun U J => y_fab fa66_0 J rfl rfl), pt [(10, (pP h1))] rfl (fun U J => y_ld uu64 (hS_106.cell 0 rfl 0 _ rfl) J rfl rfl rfl), pm rfl, pt [(11, .slice A100 n101 c102), (12, .int .i64 a0)] rfl (fun U J => y_ia uu64 sz72 (hS_106.rd2L 1 rfl) h104 J rfl rfl rfl), pt [(13, .pointer (some (ea A100 (a0.toNat * 3))))] rfl (fun U J => y_fae (m := a0.toNat * 3) fa72_1 J rfl rfl), pt [(14, .pointer (some (ea A100 (a0.toNat * 3 + 1))))] rfl (fun U J => y_ld uu29 (hc110 1 _ rfl) J rfl rfl rfl), pt [(15, .slice A105 n106 c107)] rfl (fun U J => y_len uu29 (X.rd 1 rfl).2.1 J rfl rfl), pt [(6, .slice A100 n101 c102), (7, .int .i64 a0)] rfl (fun U J => y_ia uu64 sz72 (X.rdp 0 rfl h108) h104 J rfl rfl rfl), pt [(17, .pointer (some (ea A100 (a0.toNat * 3))))] rfl (fun U J => y_fae (m := a0.toNat * 3) fa72_2 J rfl rfl), trivial⟩ ⟨et [(16, .int .i64 (x103.f1.length : Int)), (18, .pointer (some (ea A100 (a0.toNat * 3 + 2))))] rfl (fun U J K hK => ?_), trivial⟩
 refine z_sto (z' := ((⟨x103.f0, x103.f1, (x103.f1.length : Int)⟩ : S72), A105, n106, c107)) (off := 2) (vs := [.int .i64 (x103.f1.length : Int)]) 0 sz3 J X rfl (at_some h109).2.2 (fun c h => by cases h; rfl) (fun  w X => ?_) rfl rfl rfl rfl rfl rfl
 replace X := X.pk 2 |>.pk 2 |>.pk 2
 replace X := own2_in (g := (fun x : S72 => x.f1)) (x' := (⟨x103.f0, x103.f1, (x103.f1.length : Int)⟩ : S72)) h108 h109 X
 refine hK _ [] _ rfl ?_
 refine dEnd [] (by kernel_rfl) trivial ⟨by kernel_rfl, by kernel_rfl⟩ [(1, (pP g1))] rfl (fun U J => ?_)
 replace X := X.pk 1
 replace X := obj66_mk (x := (⟨a1.f0.set a0.toNat (⟨x103.f0, x103.f1, (x103.f1.length : Int)⟩ : S72), a1.f1, a1.f2, a1.f3, a1.f4⟩ : S66)) X
 replace X := X.pk 1
 cases G
 refine hQn _ _ ?_
 refine lv0n Tryz.results85 J ?_
 exact ⟨rfl, X⟩
theorem F_files_Store_Delete_1 {r : World} {L : List HP} {w : World} (a0 : Int) (a1 : S66) (g1 : Nat) (h1 : Nat) {y : (S66)} (G : files_Store_Delete_1 a0 a1 = some y) (X : SH r (blk g1 24 [.pointer (some ⟨h1, 0, none⟩)] :: obj66 h1 a1 :: L) w) :
  Ret Tryz.prog 33 #[.int .i64 a0, (pP g1)] w fun v w' => v = .tuple #[] ∧ SH r (blk g1 24 [.pointer (some ⟨h1, 0, none⟩)] :: obj66 h1 y :: L) w' := by
 refine enter Tryz.func33 rfl Tryz.ntmps33 [(0, .int .i64 a0), (1, (pP g1))] rfl (by simp) ?_
 intro U J Qf hQ hQn
 unfold files_Store_Delete_1 at G
 replace X := X.pk 1
 obtain ⟨A100, n101, c102, X⟩ := obj66_open X
 refine wp_draw [0, 0, 2, 6, 14, 0, 0, 64, 254, 511, 1023, 2047] [8, 11] rfl J X (by kernel_rfl) (by kernel_rfl) (by kernel_rfl) (by kernel_rfl) fun w X => ?_
 obtain ⟨x103, h104, G⟩ := ltt_ G
 refine ⟨[(0, (pP h1)), (1, (pP h1)), (2, (pP h1)), (3, (pP h1)), (4, .slice A100 n101 c102), (5, .int .i64 a0), (6, .int .i64 a0), (7, .int .i64 x103)], ?_⟩
 refine dF [0, 1, 2, 3, 4, 5, 6, 7] [8] (by kernel_rfl) ⟨pt [(1, (pP g1))] rfl (fun U J => y_ld uu24 (X.cell 2 rfl 0 _ rfl) J rfl rfl rfl), pt [(1, (pP g1))] rfl (fun U J => y_ld uu24 (X.cell 2 rfl 0 _ rfl) J rfl rfl rfl), pt [(4, (pP h1))] rfl (fun U J => r_nilCheck rfl (J.ev rfl)), pt [(5, (pP h1))] rfl (fun U J => y_fab fa66_0 J rfl rfl), pt [(6, (pP h1))] rfl (fun U J => y_ld uu64 (X.cell 0 rfl 0 _ rfl) J rfl rfl rfl), pm rfl, pm rfl, pt [(9, .int .i64 a0)] rfl (fun U J => (rv_i h104 (r_add rfl (J.ev rfl) (J.ev rfl)) : RunV _ _ _ _ (.int .i64 x103))), trivial⟩ ⟨et [(7, .slice A100 n101 c102), (8, .int .i64 a0), (10, .int .i64 x103)] rfl (fun U J K hK => ?_), trivial⟩
 replace X := X.pk 1
 obtain ⟨y105, h106, G⟩ := bnd G
 refine z_call' en34 J (F_del (L := blk h1 66 [.slice A100 n101 c102, .int .i64 a1.f1, .int .i64 a1.f2, .bool a1.f3, .int .i64 a1.f4] :: blk g1 24 [.pointer (some ⟨h1, 0, none⟩)] :: L) a1.f0 a0 x103 h106 X) (fun v w hR => ?_) rfl
 obtain ⟨A107, n108, c109, rfl, X⟩ := hR
 refine hK _ [(9, (pP h1)), (10, (pP h1))] _ rfl ?_
 refine dF [0, 9, 10] [11] (by kernel_rfl) ⟨pt [(1, (pP g1))] rfl (fun U J => y_ld uu24 (X.cell 2 rfl 0 _ rfl) J rfl rfl rfl), pt [(3, (pP h1))] rfl (fun U J => r_nilCheck rfl (J.ev rfl)), pt [(12, (pP h1))] rfl (fun U J => y_fab fa66_0 J rfl rfl), trivial⟩ ⟨et [(11, .slice A107 n108 c109), (13, (pP h1))] rfl (fun U J K hK => ?_), trivial⟩
 refine z_stb' 1 sz64 J X rfl (fun  w X => ?_) rfl
 refine hK _ [] _ rfl ?_
 refine dEnd [] (by kernel_rfl) trivial ⟨by kernel_rfl, by kernel_rfl⟩ [(1, (pP g1))] rfl (fun U J => ?_)
 replace X := X.pk 1 |>.pk 1
 replace X := obj66_mk (x := (⟨y105, a1.f1, a1.f2, a1.f3, a1.f4⟩ : S66)) X
 replace X := X.pk 1
 cases G
 refine hQn _ _ ?_
 refine lv0n Tryz.results33 J ?_
 exact ⟨rfl, X⟩
theorem F_files_Store_Rename_1 {r : World} {L : List HP} {w : World} (a0 : Int) (a1 : S66) (a2 : (List UInt8)) (g1 : Nat) (h1 : Nat) (g2 : Nat) {y : (S66 × (List UInt8))} (G : files_Store_Rename_1 a0 a1 a2 = some y) (X : SH r (blk g1 24 [.pointer (some ⟨h1, 0, none⟩)] :: obj66 h1 a1 :: obj9 g2 a2 :: L) w) :
  Ret Tryz.prog 72 #[.int .i64 a0, (pP g1), (pP g2)] w fun v w' => v = .tuple #[] ∧ SH r (blk g1 24 [.pointer (some ⟨h1, 0, none⟩)] :: obj66 h1 y.1 :: obj9 g2 y.2 :: L) w' := by
 refine enter Tryz.func72 rfl Tryz.ntmps72 [(0, .int .i64 a0), (1, (pP g1)), (2, (pP g2))] rfl (by simp) ?_
 intro U J Qf hQ hQn
 unfold files_Store_Rename_1 at G
 replace X := X.pk 1
 obtain ⟨A100, n101, c102, X⟩ := obj66_open X
 replace X := X.pk 3
 replace X := obj9_open X
 refine ws fun K103 hK103 => ?_
 refine x_ld' uu24 (X.cell 3 rfl 0 _ rfl) J (fun U J => ?_) rfl
 refine x_v J (r_nilCheck rfl (J.ev rfl)) rfl fun U J => ?_
 refine x_fab' fa66_0 J (fun U J => ?_) rfl
 refine x_ld' uu64 (X.cell 1 rfl 0 _ rfl) J (fun U J => ?_) rfl
 refine x_m J rfl fun U J => ?_
 obtain ⟨x104, h105, G⟩ := bnd G
 refine x_ia' uu64 sz72 (X.rd2L 2 rfl) h105 J (fun U J => ?_) rfl
 replace X := X.pk 2
 obtain ⟨ps107, A106, n107, c108, h109, h110, X⟩ := own2_out X h105
 obtain ⟨cs, hV, hc111⟩ := el (X.rd 0 rfl) h110
 obtain rfl := hV
 refine x_lda' (cs := [str x104.f0, .slice A106 n107 c108, .int .i64 x104.f2]) uu72 sz72 (fun j u h => by rw [ea_add]; exact hc111 _ _ h) J (fun U J => ?_) rfl
 refine x_alloc' (cs := [str [], .slice none 0 0, .int .i64 0]) zr72 J X (fun g112 U w X J => ?_) rfl
 refine x_stb' 0 sz72 J X rfl (fun  U w X J => ?_) rfl
 refine wn (hK103 _ _ ?_)
 refine wp_seq_k fun K113 hK113 => ?_
 refine wp_draw [0, 0, 2, 6, 14, 0, 0, 64, 254, 511, 1023, 2047] [8, 11] rfl J X (by kernel_rfl) (by kernel_rfl) (by kernel_rfl) (by kernel_rfl) fun w X => ?_
 obtain ⟨x114, h115, G⟩ := ltt_ G
 refine ⟨[(0, (pP h1)), (1, (pP h1)), (2, (pP h1)), (3, (pP h1)), (4, .slice A100 n101 c102), (5, .int .i64 a0), (6, .int .i64 a0), (7, .int .i64 x114)], ?_⟩
 refine dF [0, 1, 2, 3, 4, 5, 6, 7] [8] (by kernel_rfl) ⟨pt [(1, (pP g1))] rfl (fun U J => y_ld uu24 (X.cell 6 rfl 0 _ rfl) J rfl rfl rfl), pt [(1, (pP g1))] rfl (fun U J => y_ld uu24 (X.cell 6 rfl 0 _ rfl) J rfl rfl rfl), pt [(15, (pP h1))] rfl (fun U J => r_nilCheck rfl (J.ev rfl)), pt [(16, (pP h1))] rfl (fun U J => y_fab fa66_0 J rfl rfl), pt [(17, (pP h1))] rfl (fun U J => y_ld uu64 (X.cell 5 rfl 0 _ rfl) J rfl rfl rfl), pm rfl, pm rfl, pt [(20, .int .i64 a0)] rfl (fun U J => (rv_i h115 (r_add rfl (J.ev rfl) (J.ev rfl)) : RunV _ _ _ _ (.int .i64 x114))), trivial⟩ ⟨et [(18, .slice A100 n101 c102), (19, .int .i64 a0), (21, .int .i64 x114)] rfl (fun U J K hK => ?_), trivial⟩
 replace X := X.pk 3 |>.pk 2
 obtain ⟨h116, G⟩ := chk_some G
 refine z_call' en34 J (F_delj (L := blk g112 72 [str x104.f0, .slice A106 n107 c108, .int .i64 x104.f2] :: own (kI .u8) 5 A106 n107 c108 x104.f1 :: blk g2 9 [str a2] :: blk h1 66 [.slice A100 n101 c102, .int .i64 a1.f1, .int .i64 a1.f2, .bool a1.f3, .int .i64 a1.f4] :: blk g1 24 [.pointer (some ⟨h1, 0, none⟩)] :: L) h116 h109 h110 X) (fun v w hR => ?_) rfl
 obtain ⟨A117, n118, c119, rfl, X⟩ := hR
 refine hK _ [(9, (pP h1)), (10, (pP h1))] _ rfl ?_
 refine dF [0, 9, 10] [11] (by kernel_rfl) ⟨pt [(1, (pP g1))] rfl (fun U J => y_ld uu24 (X.cell 5 rfl 0 _ rfl) J rfl rfl rfl), pt [(14, (pP h1))] rfl (fun U J => r_nilCheck rfl (J.ev rfl)), pt [(23, (pP h1))] rfl (fun U J => y_fab fa66_0 J rfl rfl), trivial⟩ ⟨et [(22, .slice A117 n118 c119), (24, (pP h1))] rfl (fun U J K hK => ?_), trivial⟩
 refine z_stb' 4 sz64 J X rfl (fun  w X => ?_) rfl
 refine hK _ [] _ rfl ?_
 refine dEnd [] (by kernel_rfl) trivial ⟨by kernel_rfl, by kernel_rfl⟩ [(1, (pP g1)), (2, (pP g2)), (4, (pP g112))] rfl (fun U J => ?_)
 refine hK113 _ _ ?_
 refine ws fun K120 hK120 => ?_
 refine x_ld' uu9 (X.cell 4 rfl 0 _ rfl) J (fun U J => ?_) rfl
 refine x_fab' fa72_0 J (fun U J => ?_) rfl
 refine x_stb' 2 sz9 J X rfl (fun  U w X J => ?_) rfl
 refine wn (hK120 _ _ ?_)
 refine ws fun K121 hK121 => ?_
 refine x_ld' uu24 (X.cell 5 rfl 0 _ rfl) J (fun U J => ?_) rfl
 refine x_ld' uu9 (X.cell 4 rfl 0 _ rfl) J (fun U J => ?_) rfl
 replace X := X.pk 2 |>.pk 2
 obtain ⟨y122, h123, G⟩ := bnd G
 refine x_call' en21 J (F_files_Store_find (L := blk g112 72 [str a2, .slice A106 n107 c108, .int .i64 x104.f2] :: own (kI .u8) 5 A106 n107 c108 x104.f1 :: blk g2 9 [str a2] :: blk g1 24 [.pointer (some ⟨h1, 0, none⟩)] :: L) (⟨a1.f0.eraseIdx a0.toNat, a1.f1, a1.f2, a1.f3, a1.f4⟩ : S66) a2 h1 A117 n118 c119 h123 X) (fun v U w hR J => ?_) rfl
 obtain ⟨rfl, X⟩ := hR
 refine x_m J rfl fun U J => ?_
 refine x_v J (r_extract rfl (J.ev rfl) rfl) rfl fun U J => ?_
 refine x_v J (r_extract rfl (J.ev rfl) rfl) rfl fun U J => ?_
 refine x_m J rfl fun U J => ?_
 refine x_m J rfl fun U J => ?_
 refine wn (hK121 _ _ ?_)
 refine ws fun K124 hK124 => ?_
 refine x_m J rfl fun U J => ?_
 refine wn (hK124 _ _ ?_)
 refine c_if J rfl (fun hb125 => ?_) fun hb125 => ?_
 ·replace G := ift hb125 G
  refine wp_draw [0, 1, 3, 7, 0, 0, 63, 127] [7] rfl J X (by kernel_rfl) (by kernel_rfl) (by kernel_rfl) (by kernel_rfl) fun w X => ?_
  obtain ⟨x126, h127, G⟩ := bnd G
  refine ⟨[(0, (pP h1)), (1, (pP h1)), (2, (pP h1)), (3, .slice A117 n118 c119), (4, .int .i64 y122.1), (5, .agg #[str a2, .slice A106 n107 c108, .int .i64 x104.f2]), (6, .pointer (some (ea A117 (y122.1.toNat * 3))))], ?_⟩
  refine dF [0, 1, 2, 3, 4, 5, 6] [7] (by kernel_rfl) ⟨pt [(1, (pP g1))] rfl (fun U J => y_ld uu24 (X.cell 5 rfl 0 _ rfl) J rfl rfl rfl), pt [(34, (pP h1))] rfl (fun U J => r_nilCheck rfl (J.ev rfl)), pt [(35, (pP h1))] rfl (fun U J => y_fab fa66_0 J rfl rfl), pt [(36, (pP h1))] rfl (fun U J => y_ld uu64 (X.cell 0 rfl 0 _ rfl) J rfl rfl rfl), pm rfl, pt [(4, (pP g112))] rfl (fun U J => y_lda (ad := ⟨g112, 0, none⟩) (cs := [str a2, .slice A106 n107 c108, .int .i64 x104.f2]) uu72 sz72 (fun j u h => by rw [add_mk, Nat.zero_add]; exact X.cell 2 rfl j u h) J rfl rfl rfl), pt [(37, .slice A117 n118 c119), (38, .int .i64 y122.1)] rfl (fun U J => y_ia uu64 sz72 (X.rd2L 1 rfl) h127 J rfl rfl rfl), trivial⟩ ⟨et [(39, .agg #[str a2, .slice A106 n107 c108, .int .i64 x104.f2]), (40, .pointer (some (ea A117 (y122.1.toNat * 3))))] rfl (fun U J K hK => ?_), trivial⟩
  have hS_130 := X
  replace X := X.pk 1
  obtain ⟨ps131, A128, n129, c130, h131, h132, X⟩ := own2_out X h127
  refine z_sto (z' := ((⟨a2, x104.f1, x104.f2⟩ : S72), A106, n107, c108)) (off := 0) (vs := [str a2, .slice A106 n107 c108, .int .i64 x104.f2]) 0 sz72 J X rfl (at_some h132).2.2 (fun c h => by cases h; rfl) (fun  w X => ?_) rfl rfl rfl rfl rfl rfl
  replace X := X.pk 2 |>.pk 5 |>.pk 2
  replace X := own2_in (g := (fun x : S72 => x.f1)) (x' := (⟨a2, x104.f1, x104.f2⟩ : S72)) h131 h132 X
  refine hK _ [] _ rfl ?_
  refine dEnd [] (by kernel_rfl) trivial ⟨by kernel_rfl, by kernel_rfl⟩ [(1, (pP g1)), (2, (pP g2))] rfl (fun U J => ?_)
  replace X := X.pk 2
  replace X := obj66_mk (x := (⟨(a1.f0.eraseIdx a0.toNat).set y122.1.toNat (⟨a2, x104.f1, x104.f2⟩ : S72), a1.f1, a1.f2, a1.f3, a1.f4⟩ : S66)) X
  replace X := X.pk 3
  replace X := obj9_mk (x := a2) X
  replace X := X.drop 2 |>.drop 2 |>.pk 1 |>.pk 2
  cases G
  refine hQn _ _ ?_
  refine lv0n Tryz.results72 J ?_
  exact ⟨rfl, X⟩
 replace G := iff' hb125 G
 refine wp_draw [0, 0, 2, 6, 14, 0, 0, 64, 254, 511, 1023, 2047] [7, 8, 11] rfl J X (by kernel_rfl) (by kernel_rfl) (by kernel_rfl) (by kernel_rfl) fun w X => ?_
 refine ⟨[(0, (pP h1)), (1, (pP h1)), (2, (pP h1)), (3, (pP h1)), (4, .slice A117 n118 c119), (5, .int .i64 y122.1), (6, .agg #[str a2, .slice A106 n107 c108, .int .i64 x104.f2])], ?_⟩
 refine dF [0, 1, 2, 3, 4, 5, 6] [7] (by kernel_rfl) ⟨pt [(1, (pP g1))] rfl (fun U J => y_ld uu24 (X.cell 5 rfl 0 _ rfl) J rfl rfl rfl), pt [(1, (pP g1))] rfl (fun U J => y_ld uu24 (X.cell 5 rfl 0 _ rfl) J rfl rfl rfl), pt [(42, (pP h1))] rfl (fun U J => r_nilCheck rfl (J.ev rfl)), pt [(43, (pP h1))] rfl (fun U J => y_fab fa66_0 J rfl rfl), pt [(44, (pP h1))] rfl (fun U J => y_ld uu64 (X.cell 0 rfl 0 _ rfl) J rfl rfl rfl), pm rfl, pt [(4, (pP g112))] rfl (fun U J => y_lda (ad := ⟨g112, 0, none⟩) (cs := [str a2, .slice A106 n107 c108, .int .i64 x104.f2]) uu72 sz72 (fun j u h => by rw [add_mk, Nat.zero_add]; exact X.cell 2 rfl j u h) J rfl rfl rfl), trivial⟩ ⟨et [(47, .agg #[str a2, .slice A106 n107 c108, .int .i64 x104.f2])] rfl (fun U J K hK => ?_), trivial⟩
 replace X := X.pk 3
 refine z_bsl' (d := kp72) (e := 72) (ps := #[(0, .agg #[str a2, .slice A106 n107 c108, .int .i64 x104.f2])]) (cells := [str a2, .slice A106 n107 c108, .int .i64 x104.f2]) (xs := [((⟨a2, x104.f1, x104.f2⟩ : S72), A106, n107, c108)]) (fun w => by kernel_rfl) rfl ⟨[str a2, .slice A106 n107 c108, .int .i64 x104.f2], _, rfl, rfl, rfl⟩ J X (fun g133 w X => ?_) rfl
 replace X := own2_one (g := (fun x : S72 => x.f1)) (x := (⟨a2, x104.f1, x104.f2⟩ : S72)) X
 refine hK _ [] _ rfl ?_
 refine dF [0, 1, 2, 3, 4, 5] [8] (by kernel_rfl) ⟨pt [(1, (pP g1))] rfl (fun U J => y_ld uu24 (X.cell 5 rfl 0 _ rfl) J rfl rfl rfl), pt [(1, (pP g1))] rfl (fun U J => y_ld uu24 (X.cell 5 rfl 0 _ rfl) J rfl rfl rfl), pt [(42, (pP h1))] rfl (fun U J => r_nilCheck rfl (J.ev rfl)), pt [(43, (pP h1))] rfl (fun U J => y_fab fa66_0 J rfl rfl), pt [(44, (pP h1))] rfl (fun U J => y_ld uu64 (X.cell 1 rfl 0 _ rfl) J rfl rfl rfl), pm rfl, trivial⟩ ⟨et [(45, .slice A117 n118 c119), (46, .int .i64 y122.1), (48, .slice (some ⟨g133, 0, none⟩) 1 1)] rfl (fun U J K hK => ?_), trivial⟩
 replace X := X.pk 2
 obtain ⟨y134, h135, G⟩ := bnd G
 refine z_call' en24 J (F_ins (L := blk h1 66 [.slice A117 n118 c119, .int .i64 a1.f1, .int .i64 a1.f2, .bool a1.f3, .int .i64 a1.f4] :: blk g112 72 [str a2, .slice A106 n107 c108, .int .i64 x104.f2] :: blk g2 9 [str a2] :: blk g1 24 [.pointer (some ⟨h1, 0, none⟩)] :: L) (a1.f0.eraseIdx a0.toNat) y122.1 [(⟨a2, x104.f1, x104.f2⟩ : S72)] h135 X) (fun v w hR => ?_) rfl
 obtain ⟨A136, n137, c138, rfl, X⟩ := hR
 refine hK _ [(9, (pP h1)), (10, (pP h1))] _ rfl ?_
 refine dF [0, 9, 10] [11] (by kernel_rfl) ⟨pt [(1, (pP g1))] rfl (fun U J => y_ld uu24 (X.cell 4 rfl 0 _ rfl) J rfl rfl rfl), pt [(41, (pP h1))] rfl (fun U J => r_nilCheck rfl (J.ev rfl)), pt [(50, (pP h1))] rfl (fun U J => y_fab fa66_0 J rfl rfl), trivial⟩ ⟨et [(49, .slice A136 n137 c138), (51, (pP h1))] rfl (fun U J K hK => ?_), trivial⟩
 refine z_stb' 1 sz64 J X rfl (fun  w X => ?_) rfl
 refine hK _ [] _ rfl ?_
 refine dEnd [] (by kernel_rfl) trivial ⟨by kernel_rfl, by kernel_rfl⟩ [(1, (pP g1)), (2, (pP g2))] rfl (fun U J => ?_)
 replace X := X.pk 1 |>.pk 1
 replace X := obj66_mk (x := (⟨y134, a1.f1, a1.f2, a1.f3, a1.f4⟩ : S66)) X
 replace X := X.pk 2
 replace X := obj9_mk (x := a2) X
 replace X := X.drop 2 |>.pk 1 |>.pk 2
 cases G
 refine hQn _ _ ?_
 refine lv0n Tryz.results72 J ?_
 exact ⟨rfl, X⟩
theorem F_files_Store_Restart {r : World} {L : List HP} {w : World} (a0 : (Option S66)) (a1 : (List Int)) (p0 : Option Addr) (A1 : Option Addr) (n1 : Nat) (c1 : Nat) {y : (Int × (Option S66))} (G : files_Store_Restart a0 a1 = some y) (ha1 : RdL L (kI .i64) A1 n1 c1 a1) (X : SH r (optP (obj66) p0 a0 :: L) w) :
  Ret Tryz.prog 16 #[.pointer p0, .slice A1 n1 c1] w fun v w' => v = .int .i64 y.1 ∧ SH r (optP (obj66) p0 y.2 :: L) w' := by
 refine enter Tryz.func16 rfl Tryz.ntmps16 [(0, .pointer p0), (1, .slice A1 n1 c1)] rfl (by simp) ?_
 intro U J Qf hQ hQn
 unfold files_Store_Restart at G
 cases a0 with
 | none =>
  have hU := SH.unoptN X
  clear X
  obtain ⟨rfl, X⟩ := hU
  refine ws fun K100 hK100 => ?_
  refine x_m J rfl fun U J => ?_
  refine wn (hK100 _ _ ?_)
  refine wp_seq_k fun K101 hK101 => ?_
  refine ws fun K102 hK102 => ?_
  refine x_m J rfl fun U J => ?_
  refine x_v (v := .bool true) J (r_eqNilP (p := none) uu24 rfl (J.ev rfl) (J.ev rfl)) rfl fun U J => ?_
  refine wn (hK102 _ _ ?_)
  refine c_t (b := true) rfl J ?_ rfl
  refine ws fun K103 hK103 => ?_
  refine x_m J rfl fun U J => ?_
  refine wn (hK103 _ _ ?_)
  refine wp_ret ?_
  replace X := SH.optN (obj66) X
  cases G
  refine hQ _ _ ?_
  refine lv Tryz.results16 J rfl ?_
  exact ⟨rfl, X⟩
 | some x104 =>
  have hU := SH.unoptS X
  clear X
  obtain ⟨g105, rfl, X⟩ := hU
  obtain ⟨A106, n107, c108, X⟩ := obj66_open X
  refine ws fun K109 hK109 => ?_
  refine x_m J rfl fun U J => ?_
  refine wn (hK109 _ _ ?_)
  refine wp_seq_k fun K110 hK110 => ?_
  refine ws fun K111 hK111 => ?_
  refine x_m J rfl fun U J => ?_
  refine x_v (v := .bool false) J (r_eqNilP (p := some ⟨g105, 0, none⟩) uu24 rfl (J.ev rfl) (J.ev rfl)) rfl fun U J => ?_
  refine wn (hK111 _ _ ?_)
  refine c_f (b := false) rfl J ?_ rfl
  refine wp_skip ?_
  refine hK110 _ _ ?_
  refine wp_seq_k fun K112 hK112 => ?_
  refine ws fun K113 hK113 => ?_
  refine x_m J rfl fun U J => ?_
  refine x_v J (r_nilCheck rfl (J.ev rfl)) rfl fun U J => ?_
  refine x_fab' fa66_0 J (fun U J => ?_) rfl
  refine x_ld' uu64 (X.cell 0 rfl 0 _ rfl) J (fun U J => ?_) rfl
  refine x_len' uu64 (X.rd2L 1 rfl).2.1 J (fun U J => ?_) rfl
  refine x_m J rfl fun U J => ?_
  refine wn (hK113 _ _ ?_)
  refine wp_block_k fun Kx114 hKx114 => ?_
  have hb1 : ∀ (l115 : (List S72)), files_Store_Restart_b1 x104 l115 = some y → ∀ (U : Act) (w : World), FR 78 [] U [(0, (pP g105))] → SH r (blk g105 66 [.slice A106 n107 c108, .int .i64 x104.f1, .int .i64 x104.f2, .bool x104.f3, .int .i64 x104.f4] :: own2 kp72 (kI .u8) 5 (fun x : S72 => x.f1) 72 A106 n107 c108 l115 :: L) w → Kx114 U w := by
   intro l115 G U w J X
   unfold files_Store_Restart_b1 at G
   refine hKx114 _ _ ?_
   refine hK112 _ _ ?_
   refine ws fun K116 hK116 => ?_
   refine x_m J rfl fun U J => ?_
   refine x_m J rfl fun U J => ?_
   refine x_v J (r_nilCheck rfl (J.ev rfl)) rfl fun U J => ?_
   refine x_fab' fa66_3 J (fun U J => ?_) rfl
   refine x_stb' 0 sz4 J X rfl (fun  U w X J => ?_) rfl
   refine x_v J (r_nilCheck rfl (J.ev rfl)) rfl fun U J => ?_
   refine x_fab' fa66_2 J (fun U J => ?_) rfl
   refine x_stb' 0 sz3 J X rfl (fun  U w X J => ?_) rfl
   refine wn (hK116 _ _ ?_)
   refine ws fun K117 hK117 => ?_
   refine x_m J rfl fun U J => ?_
   refine wn (hK117 _ _ ?_)
   refine wp_ret ?_
   replace X := X.pk 1 |>.pk 1
   replace X := obj66_mk (x := (⟨l115, x104.f1, 0, false, x104.f4⟩ : S66)) X
   replace X := SH.optS X
   cases G
   refine hQ _ _ ?_
   refine lv Tryz.results16 J rfl ?_
   exact ⟨rfl, X⟩
  obtain ⟨t118, hl118, G⟩ := bnd G
  have hx118_0 : ∀ (l118 : (List S72)), (l118) = t118 → ∀ (U : Act) (w : World), FR 78 [] U [(0, (pP g105))] → SH r (blk g105 66 [.slice A106 n107 c108, .int .i64 x104.f1, .int .i64 x104.f2, .bool x104.f3, .int .i64 x104.f4] :: own2 kp72 (kI .u8) 5 (fun x : S72 => x.f1) 72 A106 n107 c108 l118 :: L) w → Kx114 U w := by
   intro l118 ht U w J X
   subst ht
   replace G : files_Store_Restart_x1_0 x104 l118 = some y := G
   unfold files_Store_Restart_x1_0 at G
   exact hb1 l118 G U w (J.sub _ rfl) X
  refine wp_loop_fn hl118 (fun s U w => FR 78 [] U [(0, (pP g105)), (1, .slice A1 n1 c1), (14, .int .i64 (x104.f0.length : Int)), (15, .int .i64 s.2)] ∧ SH r (blk g105 66 [.slice A106 n107 c108, .int .i64 x104.f1, .int .i64 x104.f2, .bool x104.f3, .int .i64 x104.f4] :: own2 kp72 (kI .u8) 5 (fun x : S72 => x.f1) 72 A106 n107 c108 s.1 :: L) w) ⟨J.sub _ rfl, X⟩ ?_
  intro N118 s118 o118 G N118_ T118_ U w hLab
  obtain ⟨l119, x120⟩ := s118
  replace G : files_Store_Restart_l1 a1 x104 l119 x120 = some o118 := G
  unfold files_Store_Restart_l1 at G
  try dsimp only at hLab
  obtain ⟨J, X⟩ := hLab
  refine ws fun K121 hK121 => ?_
  refine x_v J (r_ltI rfl (J.ev rfl) (J.ev rfl)) rfl fun U J => ?_
  refine wn (hK121 _ _ ?_)
  refine wp_seq_k fun K122 hK122 => ?_
  refine c_if J rfl (fun hb123 => ?_) fun hb123 => ?_
  ·replace G := ift hb123 G
   refine wp_skip ?_
   refine hK122 _ _ ?_
   refine wp_seq_k fun K124 hK124 => ?_
   refine wp_block_k fun Kx125 hKx125 => ?_
   refine ws fun K126 hK126 => ?_
   refine x_m J rfl fun U J => ?_
   refine x_m J rfl fun U J => ?_
   refine wn (hK126 _ _ ?_)
   refine ws fun K127 hK127 => ?_
   refine x_m J rfl fun U J => ?_
   refine x_v J (r_nilCheck rfl (J.ev rfl)) rfl fun U J => ?_
   refine x_fab' fa66_0 J (fun U J => ?_) rfl
   refine x_ld' uu64 (X.cell 0 rfl 0 _ rfl) J (fun U J => ?_) rfl
   refine x_m J rfl fun U J => ?_
   obtain ⟨x128, h129, G⟩ := bnd G
   refine x_ia' uu64 sz72 (X.rd2L 1 rfl) h129 J (fun U J => ?_) rfl
   refine x_m J rfl fun U J => ?_
   refine wn (hK127 _ _ ?_)
   refine ws fun K130 hK130 => ?_
   refine x_m J rfl fun U J => ?_
   refine wn (hK130 _ _ ?_)
   refine wp_seq_k fun K131 hK131 => ?_
   have hj1 : ∀ (x132 : Int), files_Store_Restart_j1 l119 x120 x132 = some o118 → ∀ (U : Act) (w : World), FR 78 [] U [(0, (pP g105)), (1, .slice A1 n1 c1), (6, .pointer (some (ea A106 (x120.toNat * 3)))), (7, .int .i64 x132), (14, .int .i64 (x104.f0.length : Int)), (15, .int .i64 x120)] → SH r (blk g105 66 [.slice A106 n107 c108, .int .i64 x104.f1, .int .i64 x104.f2, .bool x104.f3, .int .i64 x104.f4] :: own2 kp72 (kI .u8) 5 (fun x : S72 => x.f1) 72 A106 n107 c108 l119 :: L) w → K131 U w := by
    intro x132 G U w J X
    unfold files_Store_Restart_j1 at G
    refine hK131 _ _ ?_
    refine wp_seq_k fun K133 hK133 => ?_
    have hj2 : ∀ (l134 : (List S72)), files_Store_Restart_j2 x120 l134 = some o118 → ∀ (U : Act) (w : World), FR 78 [] U [(0, (pP g105)), (1, .slice A1 n1 c1), (6, .pointer (some (ea A106 (x120.toNat * 3)))), (14, .int .i64 (x104.f0.length : Int)), (15, .int .i64 x120)] → SH r (blk g105 66 [.slice A106 n107 c108, .int .i64 x104.f1, .int .i64 x104.f2, .bool x104.f3, .int .i64 x104.f4] :: own2 kp72 (kI .u8) 5 (fun x : S72 => x.f1) 72 A106 n107 c108 l134 :: L) w → K133 U w := by
     intro l134 G U w J X
     unfold files_Store_Restart_j2 at G
     refine hK133 _ _ ?_
     refine wp_reg ?_
     refine x_m J rfl fun U J => ?_
     refine x_m J rfl fun U J => ?_
     refine x_v J (r_nilCheck rfl (J.ev rfl)) rfl fun U J => ?_
     refine x_fae (m := x120.toNat * 3) fa72_1 J (fun U J => ?_) rfl rfl rfl rfl rfl
     obtain ⟨x135, h136, G⟩ := bnd G
     replace X := X.pk 1
     obtain ⟨ps1779, A137, n138, c139, h140, h141, X⟩ := own2_out X h136
     obtain ⟨cs, hV, hc142⟩ := el (X.rd 0 rfl) h141
     obtain rfl := hV
     refine x_ld' uu29 (hc142 1 _ rfl) J (fun U J => ?_) rfl
     refine x_len' uu29 (X.rd 1 rfl).2.1 J (fun U J => ?_) rfl
     refine x_v J (r_nilCheck rfl (J.ev rfl)) rfl fun U J => ?_
     refine x_fae (m := x120.toNat * 3) fa72_2 J (fun U J => ?_) rfl rfl rfl rfl rfl
     refine x_sto (z' := ((⟨x135.f0, x135.f1, (x135.f1.length : Int)⟩ : S72), A137, n138, c139)) (off := 2) (vs := [.int .i64 (x135.f1.length : Int)]) 0 sz3 J X rfl (at_some h141).2.2 (fun c h => by cases h; rfl) (fun  U w X J => ?_) rfl rfl rfl rfl rfl rfl rfl rfl
     replace X := X.pk 2 |>.pk 2 |>.pk 2
     replace X := own2_in (g := (fun x : S72 => x.f1)) (x' := (⟨x135.f0, x135.f1, (x135.f1.length : Int)⟩ : S72)) h140 h141 X
     refine wpList_nil ?_
     refine hKx125 _ _ ?_
     refine hK124 _ _ ?_
     refine wp_reg ?_
     obtain ⟨x143, h144, G⟩ := ltt_ G
     refine x_v (v := .int .i64 x143) J (rv_i h144 (r_add rfl (J.ev rfl) (J.ev rfl))) rfl fun U J => ?_
     refine x_m J rfl fun U J => ?_
     refine wpList_nil ?_
     replace X := X.pk 1
     cases G
     exact ⟨_, N118_ _ rfl, J.sub _ rfl, X⟩
    refine wp_seq_k fun K145 hK145 => ?_
    have hj3 : ∀ (b146 : Bool), files_Store_Restart_j3 l119 x120 x132 b146 = some o118 → ∀ (U : Act) (w : World), FR 78 [] U [(0, (pP g105)), (1, .slice A1 n1 c1), (6, .pointer (some (ea A106 (x120.toNat * 3)))), (7, .int .i64 x132), (14, .int .i64 (x104.f0.length : Int)), (15, .int .i64 x120), (47, .bool b146)] → SH r (blk g105 66 [.slice A106 n107 c108, .int .i64 x104.f1, .int .i64 x104.f2, .bool x104.f3, .int .i64 x104.f4] :: own2 kp72 (kI .u8) 5 (fun x : S72 => x.f1) 72 A106 n107 c108 l119 :: L) w → K145 U w := by
     intro b146 G U w J X
     unfold files_Store_Restart_j3 at G
     refine hK145 _ _ ?_
     refine c_if J rfl (fun hb147 => ?_) fun hb147 => ?_
     ·replace G := ift hb147 G
      refine wp_draw [0, 0, 2, 6, 14, 0, 32, 96, 224, 0, 992, 2046, 4094, 8191, 16383, 32767] [12, 15] rfl J X (by kernel_rfl) (by kernel_rfl) (by kernel_rfl) (by kernel_rfl) fun w X => ?_
      obtain ⟨x148, h149, G⟩ := bnd G
      have hS_1807 := X
      replace X := X.pk 1
      obtain ⟨ps1808, A150, n151, c152, h153, h154, X⟩ := own2_out X h149
      obtain ⟨cs, hV, hc155⟩ := el (X.rd 0 rfl) h154
      obtain rfl := hV
      obtain ⟨cs, hV, hc156⟩ := el (X.rd 0 rfl) h154
      obtain rfl := hV
      obtain ⟨x157, h158, G⟩ := ltt_ G
      obtain ⟨l159, h160, G⟩ := bnd G
      refine ⟨[(0, .pointer (some (ea A106 (x120.toNat * 3)))), (1, .pointer (some (ea A106 (x120.toNat * 3)))), (2, .pointer (some (ea A106 (x120.toNat * 3)))), (3, .pointer (some (ea A106 (x120.toNat * 3 + 1)))), (4, .slice A150 n151 c152), (5, .pointer (some (ea A106 (x120.toNat * 3)))), (6, .pointer (some (ea A106 (x120.toNat * 3)))), (7, .pointer (some (ea A106 (x120.toNat * 3 + 2)))), (8, .int .i64 x148.f2), (9, .int .i64 x132), (10, .int .i64 x157), (11, .slice A150 x157.toNat c152)], ?_⟩
      refine dF [0, 1, 2, 3, 4, 5, 6, 7, 8, 9, 10, 11] [12] (by kernel_rfl) ⟨pm rfl, pm rfl, pt [(49, .pointer (some (ea A106 (x120.toNat * 3))))] rfl (fun U J => r_nilCheck rfl (J.ev rfl)), pt [(50, .pointer (some (ea A106 (x120.toNat * 3))))] rfl (fun U J => y_fae (m := x120.toNat * 3) fa72_1 J rfl rfl), pt [(51, .pointer (some (ea A106 (x120.toNat * 3 + 1))))] rfl (fun U J => y_ld uu29 (hc155 1 _ rfl) J rfl rfl rfl), pm rfl, pt [(53, .pointer (some (ea A106 (x120.toNat * 3))))] rfl (fun U J => r_nilCheck rfl (J.ev rfl)), pt [(54, .pointer (some (ea A106 (x120.toNat * 3))))] rfl (fun U J => y_fae (m := x120.toNat * 3) fa72_2 J rfl rfl), pt [(55, .pointer (some (ea A106 (x120.toNat * 3 + 2))))] rfl (fun U J => y_ld uu3 (hc156 2 _ rfl) J rfl rfl rfl), pm rfl, pt [(56, .int .i64 x148.f2), (57, .int .i64 x132)] rfl (fun U J => (rv_i h158 (r_add rfl (J.ev rfl) (J.ev rfl)) : RunV _ _ _ _ (.int .i64 x157))), pt [(52, .slice A150 n151 c152), (58, .int .i64 x157)] rfl (fun U J => r_slice_h uu29 sz5 rfl (J.ev rfl) (J.ev rfl) (cutq (X.rd 1 rfl) h160).2.2.2.2.1 (cutq (X.rd 1 rfl) h160).2.2.1), trivial⟩ ⟨et [(59, .slice A150 x157.toNat c152)] rfl (fun U J K hK => ?_), trivial⟩
      obtain ⟨y161, h162, G⟩ := bnd G
      refine z_call' en35 J (F_slices_Clone_byte_byte (L := own kp72 72 A106 n107 c108 ps1808 :: own (kI .u8) 5 A150 n151 c152 x148.f1 :: rows (kI .u8) 5 (fun x : S72 => x.f1) (ps1808.eraseIdx x120.toNat) :: blk g105 66 [.slice A106 n107 c108, .int .i64 x104.f1, .int .i64 x104.f2, .bool x104.f3, .int .i64 x104.f4] :: L) l159 A150 x157.toNat c152 h162 (rdl_h (RdL.own 1 rfl (X.dropN 0)) h160) X) (fun v w hR => ?_) rfl
      obtain ⟨B163, m164, d165, rfl, X⟩ := hR
      refine hK _ [(13, .pointer (some (ea A106 (x120.toNat * 3)))), (14, .pointer (some (ea A106 (x120.toNat * 3 + 1))))] _ rfl ?_
      refine dF [0, 13, 14] [15] (by kernel_rfl) ⟨pm rfl, pt [(48, .pointer (some (ea A106 (x120.toNat * 3))))] rfl (fun U J => r_nilCheck rfl (J.ev rfl)), pt [(61, .pointer (some (ea A106 (x120.toNat * 3))))] rfl (fun U J => y_fae (m := x120.toNat * 3) fa72_1 J rfl rfl), trivial⟩ ⟨et [(60, .slice B163 m164 d165), (62, .pointer (some (ea A106 (x120.toNat * 3 + 1))))] rfl (fun U J K hK => ?_), trivial⟩
      refine z_sto (z' := ((⟨x148.f0, y161, x148.f2⟩ : S72), B163, m164, d165)) (off := 1) (vs := [.slice B163 m164 d165]) 1 sz29 J X rfl (at_some h154).2.2 (fun c h => by cases h; rfl) (fun  w X => ?_) rfl rfl rfl rfl rfl rfl
      replace X := X.pk 3 |>.pk 2 |>.pk 2
      replace X := own2_in (g := (fun x : S72 => x.f1)) (x' := (⟨x148.f0, y161, x148.f2⟩ : S72)) h153 h154 X
      refine hK _ [] _ rfl ?_
      refine dEnd [] (by kernel_rfl) trivial ⟨by kernel_rfl, by kernel_rfl⟩ [(0, (pP g105)), (1, .slice A1 n1 c1), (6, .pointer (some (ea A106 (x120.toNat * 3)))), (14, .int .i64 (x104.f0.length : Int)), (15, .int .i64 x120)] rfl (fun U J => ?_)
      replace X := X.drop 1 |>.pk 1
      exact hj2 (l119.set x120.toNat (⟨x148.f0, y161, x148.f2⟩ : S72)) G U w (J.sub _ rfl) X
     replace G := iff' hb147 G
     refine wp_skip ?_
     exact hj2 l119 G U w (J.sub _ rfl) X
    refine wp_draw [0, 1, 3, 7, 7, 23, 55, 119, 247, 7, 519, 1543, 3591, 8183, 16383, 32767] [] rfl J X (by kernel_rfl) (by kernel_rfl) (by kernel_rfl) (by kernel_rfl) fun w X => ?_
    refine bcase (b := decide (0 ≤ x132)) (fun hb166 => ?_) fun hb166 => ?_
    ·replace G := ift hb166 G
     obtain ⟨x167, h168, G⟩ := bnd G
     have hS_1828 := X
     replace X := X.pk 1
     obtain ⟨ps1829, A169, n170, c171, h172, h173, X⟩ := own2_out X h168
     obtain ⟨cs, hV, hc174⟩ := el (X.rd 0 rfl) h173
     obtain rfl := hV
     obtain ⟨cs, hV, hc175⟩ := el (X.rd 0 rfl) h173
     obtain rfl := hV
     obtain ⟨x176, h177, G⟩ := ltt_ G
     refine ⟨[(0, .int .i64 x132), (1, .bool (decide (0 ≤ x132))), (2, .bool (decide (0 ≤ x132))), (3, .int .i64 x132), (4, .pointer (some (ea A106 (x120.toNat * 3)))), (5, .pointer (some (ea A106 (x120.toNat * 3)))), (6, .pointer (some (ea A106 (x120.toNat * 3 + 1)))), (7, .slice A169 n170 c171), (8, .int .i64 (x167.f1.length : Int)), (9, .pointer (some (ea A106 (x120.toNat * 3)))), (10, .pointer (some (ea A106 (x120.toNat * 3)))), (11, .pointer (some (ea A106 (x120.toNat * 3 + 2)))), (12, .int .i64 x167.f2), (13, .int .i64 x176), (14, .bool (decide (x132 < x176))), (15, .bool (decide (x132 < x176)))], ?_⟩
     refine dEnd [0, 1, 2, 3, 4, 5, 6, 7, 8, 9, 10, 11, 12, 13, 14, 15] (by kernel_rfl) ⟨pm rfl, pt [(32, .int .i64 x132)] rfl (fun U J => r_geI rfl (J.ev rfl) (J.ev rfl)), pm rfl, puOn rfl rfl rfl rfl [(7, .int .i64 x132), (34, .bool (decide (0 ≤ x132)))] rfl hb166 (fun U J => y_move J rfl rfl) rfl, puOn rfl rfl rfl rfl [(6, .pointer (some (ea A106 (x120.toNat * 3)))), (34, .bool (decide (0 ≤ x132)))] rfl hb166 (fun U J => y_move J rfl rfl) rfl, puOn rfl rfl rfl rfl [(34, .bool (decide (0 ≤ x132))), (36, .pointer (some (ea A106 (x120.toNat * 3))))] rfl hb166 (fun U J => r_nilCheck rfl (J.ev rfl)) rfl, puOn rfl rfl rfl rfl [(34, .bool (decide (0 ≤ x132))), (37, .pointer (some (ea A106 (x120.toNat * 3))))] rfl hb166 (fun U J => y_fae (m := x120.toNat * 3) fa72_1 J rfl rfl) rfl, puOn rfl rfl rfl rfl [(34, .bool (decide (0 ≤ x132))), (38, .pointer (some (ea A106 (x120.toNat * 3 + 1))))] rfl hb166 (fun U J => y_ld uu29 (hc174 1 _ rfl) J rfl rfl rfl) rfl, puOn rfl rfl rfl rfl [(34, .bool (decide (0 ≤ x132))), (39, .slice A169 n170 c171)] rfl hb166 (fun U J => y_len uu29 (X.rd 1 rfl).2.1 J rfl rfl) rfl, puOn rfl rfl rfl rfl [(6, .pointer (some (ea A106 (x120.toNat * 3)))), (34, .bool (decide (0 ≤ x132)))] rfl hb166 (fun U J => y_move J rfl rfl) rfl, puOn rfl rfl rfl rfl [(34, .bool (decide (0 ≤ x132))), (41, .pointer (some (ea A106 (x120.toNat * 3))))] rfl hb166 (fun U J => r_nilCheck rfl (J.ev rfl)) rfl, puOn rfl rfl rfl rfl [(34, .bool (decide (0 ≤ x132))), (42, .pointer (some (ea A106 (x120.toNat * 3))))] rfl hb166 (fun U J => y_fae (m := x120.toNat * 3) fa72_2 J rfl rfl) rfl, puOn rfl rfl rfl rfl [(34, .bool (decide (0 ≤ x132))), (43, .pointer (some (ea A106 (x120.toNat * 3 + 2))))] rfl hb166 (fun U J => y_ld uu3 (hc175 2 _ rfl) J rfl rfl rfl) rfl, puOn rfl rfl rfl rfl [(34, .bool (decide (0 ≤ x132))), (40, .int .i64 (x167.f1.length : Int)), (44, .int .i64 x167.f2)] rfl hb166 (fun U J => (rv_i h177 (r_sub rfl (J.ev rfl) (J.ev rfl)) : RunV _ _ _ _ (.int .i64 x176))) rfl, puOn rfl rfl rfl rfl [(34, .bool (decide (0 ≤ x132))), (35, .int .i64 x132), (45, .int .i64 x176)] rfl hb166 (fun U J => r_ltI rfl (J.ev rfl) (J.ev rfl)) rfl, pt [(34, .bool (decide (0 ≤ x132))), (46, .bool (decide (x132 < x176)))] rfl (fun U J => y_pickt hb166 J rfl rfl rfl), trivial⟩ ⟨by kernel_rfl, by kernel_rfl⟩ [(0, (pP g105)), (1, .slice A1 n1 c1), (6, .pointer (some (ea A106 (x120.toNat * 3)))), (7, .int .i64 x132), (14, .int .i64 (x104.f0.length : Int)), (15, .int .i64 x120), (35, .int .i64 x132), (36, .pointer (some (ea A106 (x120.toNat * 3)))), (37, .pointer (some (ea A106 (x120.toNat * 3)))), (38, .pointer (some (ea A106 (x120.toNat * 3 + 1)))), (39, .slice A169 n170 c171), (40, .int .i64 (x167.f1.length : Int)), (41, .pointer (some (ea A106 (x120.toNat * 3)))), (42, .pointer (some (ea A106 (x120.toNat * 3)))), (43, .pointer (some (ea A106 (x120.toNat * 3 + 2)))), (44, .int .i64 x167.f2), (45, .int .i64 x176), (46, .bool (decide (x132 < x176))), (47, .bool (decide (x132 < x176)))] rfl (fun U J => ?_)
     replace X := X.pk 2 |>.pk 2 |>.pk 2
     replace X := own2_in0 (g := (fun x : S72 => x.f1)) (x := x167) h172 h173 X
     replace X := X.pk 1
     exact hj3 (decide (x132 < x176)) G U w (J.sub _ rfl) X
    replace G := iff' hb166 G
    refine ⟨[(0, .int .i64 x132), (1, .bool (decide (0 ≤ x132))), (2, .bool (decide (0 ≤ x132))), (3, undef), (4, undef), (5, undef), (6, undef), (7, undef), (8, undef), (9, undef), (10, undef), (11, undef), (12, undef), (13, undef), (14, undef), (15, .bool false)], ?_⟩
    refine dEnd [0, 1, 2, 3, 4, 5, 6, 7, 8, 9, 10, 11, 12, 13, 14, 15] (by kernel_rfl) ⟨pm rfl, pt [(32, .int .i64 x132)] rfl (fun U J => r_geI rfl (J.ev rfl) (J.ev rfl)), pm rfl, puOff rfl rfl rfl rfl [(7, .int .i64 x132), (34, .bool (decide (0 ≤ x132)))] rfl hb166 rfl, puOff rfl rfl rfl rfl [(6, .pointer (some (ea A106 (x120.toNat * 3)))), (34, .bool (decide (0 ≤ x132)))] rfl hb166 rfl, puOff rfl rfl rfl rfl [(34, .bool (decide (0 ≤ x132))), (36, undef)] rfl hb166 rfl, puOff rfl rfl rfl rfl [(34, .bool (decide (0 ≤ x132))), (37, undef)] rfl hb166 rfl, puOff rfl rfl rfl rfl [(34, .bool (decide (0 ≤ x132))), (38, undef)] rfl hb166 rfl, puOff rfl rfl rfl rfl [(34, .bool (decide (0 ≤ x132))), (39, undef)] rfl hb166 rfl, puOff rfl rfl rfl rfl [(6, .pointer (some (ea A106 (x120.toNat * 3)))), (34, .bool (decide (0 ≤ x132)))] rfl hb166 rfl, puOff rfl rfl rfl rfl [(34, .bool (decide (0 ≤ x132))), (41, undef)] rfl hb166 rfl, puOff rfl rfl rfl rfl [(34, .bool (decide (0 ≤ x132))), (42, undef)] rfl hb166 rfl, puOff rfl rfl rfl rfl [(34, .bool (decide (0 ≤ x132))), (43, undef)] rfl hb166 rfl, puOff rfl rfl rfl rfl [(34, .bool (decide (0 ≤ x132))), (40, undef), (44, undef)] rfl hb166 rfl, puOff rfl rfl rfl rfl [(34, .bool (decide (0 ≤ x132))), (35, undef), (45, undef)] rfl hb166 rfl, pt [(34, .bool (decide (0 ≤ x132))), (46, undef)] rfl (fun U J => y_pickf hb166 J rfl rfl rfl), trivial⟩ ⟨by kernel_rfl, by kernel_rfl⟩ [(0, (pP g105)), (1, .slice A1 n1 c1), (6, .pointer (some (ea A106 (x120.toNat * 3)))), (7, .int .i64 x132), (14, .int .i64 (x104.f0.length : Int)), (15, .int .i64 x120), (47, .bool false)] rfl (fun U J => ?_)
    exact hj3 false G U w (J.sub _ rfl) X
   refine ws fun K178 hK178 => ?_
   refine x_m J rfl fun U J => ?_
   refine x_m J rfl fun U J => ?_
   refine x_len' uu34 (X.rdl 2 ha1 rfl).2.1 J (fun U J => ?_) rfl
   refine x_v J (r_ltI rfl (J.ev rfl) (J.ev rfl)) rfl fun U J => ?_
   refine wn (hK178 _ _ ?_)
   refine c_if J rfl (fun hb179 => ?_) fun hb179 => ?_
   ·replace G := ift hb179 G
    refine wp_reg ?_
    refine x_m J rfl fun U J => ?_
    refine x_m J rfl fun U J => ?_
    obtain ⟨x180, h181, G⟩ := bnd G
    refine x_ia' uu34 sz3 (X.rdl 2 ha1 rfl) h181 J (fun U J => ?_) rfl
    obtain ⟨cs, hV, hc182⟩ := el (X.rdl 2 ha1 rfl) h181
    obtain rfl := hV
    refine x_ld' uu3 (hc182 0 _ rfl) J (fun U J => ?_) rfl
    refine x_m J rfl fun U J => ?_
    refine wpList_nil ?_
    exact hj1 x180 G U w (J.sub _ rfl) X
   replace G := iff' hb179 G
   refine wp_skip ?_
   exact hj1 0 G U w (J.sub _ rfl) X
  replace G := iff' hb123 G
  refine wp_exit ?_
  cases G
  exact hx118_0 l119 (T118_ _ rfl) U w (J.sub _ rfl) X
noncomputable section
set_option linter.unusedSimpArgs false
def files_change_Sync (a1 : (List UInt8)) (a70 : S66) : Option (Int × S66) :=
  (files_Store_look (some a70) a1).bind fun y107 => (if (y107 != 0) = true then (some (y107, a70)) else ((files_Store_find a70 a1).bind fun y118 => (if (!y118.2) = true then (some (5, a70)) else ((files_Store_begin a70).bind fun y126 => (if (!y126.1) = true then (some (9, y126.2)) else ((files_Store_Sync_1 y118.1 y126.2).bind fun y134 => (some (0, y134))))))))
def files_change_Delete (a1 : (List UInt8)) (a70 : S66) : Option (Int × S66) :=
  (files_Store_look (some a70) a1).bind fun y107 => (if (y107 != 0) = true then (some (y107, a70)) else ((files_Store_find a70 a1).bind fun y118 => (if (!y118.2) = true then (some (5, a70)) else ((files_Store_begin a70).bind fun y126 => (if (!y126.1) = true then (some (9, y126.2)) else ((files_Store_Delete_1 y118.1 y126.2).bind fun y134 => (some (0, y134))))))))
def files_change_Rename (a1 : (List UInt8)) (a70 : S66) (a71 : (List UInt8)) : Option (Int × S66 × (List UInt8)) :=
  (files_Store_look (some a70) a1).bind fun y107 => (if (y107 != 0) = true then (some (y107, a70, a71)) else ((files_Store_find a70 a1).bind fun y118 => (if (!y118.2) = true then (some (5, a70, a71)) else ((files_Store_begin a70).bind fun y126 => (if (!y126.1) = true then (some (9, y126.2, a71)) else ((files_Store_Rename_1 y118.1 y126.2 a71).bind fun y134 => (some (0, y134.1, y134.2))))))))
def files_Store_Sync (a0 : (Option S66)) (a1 : (List UInt8)) : Option (Int × (Option S66)) :=
  match a0 with | none => (none) | some x101 => ((files_change_Sync a1 x101).bind fun y112 => (some (y112.1, some y112.2)))
def files_Store_Delete (a0 : (Option S66)) (a1 : (List UInt8)) : Option (Int × (Option S66)) :=
  match a0 with | none => (none) | some x101 => ((files_change_Delete a1 x101).bind fun y112 => (some (y112.1, some y112.2)))
def files_Store_Rename (a0 : (Option S66)) (a1 : (List UInt8)) (a2 : (List UInt8)) : Option (Int × (Option S66)) :=
  match a0 with | none => ((files_Store_look none a2).bind fun y110 => (if (y110 != 0) = true then (some (y110, none)) else (none))) | some x101 => ((files_Form a1).bind fun y126 => (if (!y126) = true then (some (1, some x101)) else ((files_Store_look (some x101) a2).bind fun y132 => (if (y132 != 0) = true then (some (y132, some x101)) else ((files_change_Rename a1 x101 a2).bind fun y143 => (some (y143.1, some y143.2.1)))))))
end
end Go.Proofs.YtffdckhgkhhbjaaGreatDoor.M
