/- Texts of the claim, joined: what it uses of Mes, Dpg, Mpg, Dpl, Mpl, Dpr. -/
import Derived.Test.YthokgnonmcgkcaaGreatDoorZb
namespace Go.Proofs.YthokgnonmcgkcaaGreatDoor.M
open Go Go.RowKit Go.Proofs.YthokgnonmcgkcaaGreatDoor.E
set_option linter.unusedVariables false
set_option maxRecDepth 100000
set_option maxHeartbeats 4000000
set_option linter.unusedSimpArgs false
theorem F_event_Less {r : World} {L : List HP} {w : World} (a0 : S37) (a1 : S37) {y : (Bool)} (hF : event_Less a0 a1 = some y) (hS : SH r (L) w) :
  Ret Tryz.prog 35 #[.agg #[.int .u64 a0.f0, .int .i64 a0.f1, .int .i64 a0.f2, str a0.f3, .float .f64 a0.f4], .agg #[.int .u64 a1.f0, .int .i64 a1.f1, .int .i64 a1.f2, str a1.f3, .float .f64 a1.f4]] w fun v w' => v = .bool y ∧ SH r (L) w' := by
 refine enter Tryz.func35 rfl Tryz.ntmps35 [(0, .agg #[.int .u64 a0.f0, .int .i64 a0.f1, .int .i64 a0.f2, str a0.f3, .float .f64 a0.f4]), (1, .agg #[.int .u64 a1.f0, .int .i64 a1.f1, .int .i64 a1.f2, str a1.f3, .float .f64 a1.f4])] rfl (by simp) ?_
 intro ac hA Qf hQ hQn
 unfold event_Less at hF
 refine ws fun K101 hK101 => ?_
 refine x_box hA hS (fun g102 ac w hS hA => ?_) rfl rfl rfl rfl rfl rfl
 refine x_box hA hS (fun g103 ac w hS hA => ?_) rfl rfl rfl rfl rfl rfl
 refine x_m hA rfl fun ac hA => ?_
 refine wn (hK101 _ _ ?_)
 refine wp_seq_k fun K104 hK104 => ?_
 refine wp_block_k fun Kx105 hKx105 => ?_
 refine ws fun K106 hK106 => ?_
 refine x_fab fa37_3 hA (fun ac hA => ?_) rfl rfl rfl rfl rfl
 refine x_ld Tryz.underlying9 (hS.cell 1 rfl 3 _ rfl) hA (fun ac hA => ?_) rfl rfl rfl rfl rfl rfl
 refine x_fab fa37_3 hA (fun ac hA => ?_) rfl rfl rfl rfl rfl
 refine x_ld Tryz.underlying9 (hS.cell 0 rfl 3 _ rfl) hA (fun ac hA => ?_) rfl rfl rfl rfl rfl rfl
 refine x_v hA (r_neS rfl (hA.ev rfl) (hA.ev rfl)) rfl fun ac hA => ?_
 refine x_m hA rfl fun ac hA => ?_
 refine wn (hK106 _ _ ?_)
 refine c_if hA rfl (fun hb107 => ?_) fun hb107 => ?_
 ·replace hF := ift hb107 hF
  refine ws fun K108 hK108 => ?_
  refine x_fab fa37_3 hA (fun ac hA => ?_) rfl rfl rfl rfl rfl
  refine x_ld Tryz.underlying9 (hS.cell 1 rfl 3 _ rfl) hA (fun ac hA => ?_) rfl rfl rfl rfl rfl rfl
  refine x_fab fa37_3 hA (fun ac hA => ?_) rfl rfl rfl rfl rfl
  refine x_ld Tryz.underlying9 (hS.cell 0 rfl 3 _ rfl) hA (fun ac hA => ?_) rfl rfl rfl rfl rfl rfl
  refine x_v hA (r_ltS rfl (hA.ev rfl) (hA.ev rfl)) rfl fun ac hA => ?_
  refine x_m hA rfl fun ac hA => ?_
  refine wn (hK108 _ _ ?_)
  refine wp_ret ?_
  replace hS := hS.drop 0
  replace hS := hS.drop 0
  cases hF
  refine hQ _ _ ?_
  refine lv Tryz.results35 hA rfl ?_
  exact ⟨rfl, hS⟩
 replace hF := iff' hb107 hF
 refine ws fun K109 hK109 => ?_
 refine x_fab fa37_2 hA (fun ac hA => ?_) rfl rfl rfl rfl rfl
 refine x_ld Tryz.underlying2 (hS.cell 1 rfl 2 _ rfl) hA (fun ac hA => ?_) rfl rfl rfl rfl rfl rfl
 refine x_fab fa37_2 hA (fun ac hA => ?_) rfl rfl rfl rfl rfl
 refine x_ld Tryz.underlying2 (hS.cell 0 rfl 2 _ rfl) hA (fun ac hA => ?_) rfl rfl rfl rfl rfl rfl
 refine x_v hA (r_neI rfl (hA.ev rfl) (hA.ev rfl)) rfl fun ac hA => ?_
 refine x_m hA rfl fun ac hA => ?_
 refine wn (hK109 _ _ ?_)
 refine c_if hA rfl (fun hb110 => ?_) fun hb110 => ?_
 ·replace hF := ift hb110 hF
  refine ws fun K111 hK111 => ?_
  refine x_fab fa37_2 hA (fun ac hA => ?_) rfl rfl rfl rfl rfl
  refine x_ld Tryz.underlying2 (hS.cell 1 rfl 2 _ rfl) hA (fun ac hA => ?_) rfl rfl rfl rfl rfl rfl
  refine x_fab fa37_2 hA (fun ac hA => ?_) rfl rfl rfl rfl rfl
  refine x_ld Tryz.underlying2 (hS.cell 0 rfl 2 _ rfl) hA (fun ac hA => ?_) rfl rfl rfl rfl rfl rfl
  refine x_v hA (r_ltI rfl (hA.ev rfl) (hA.ev rfl)) rfl fun ac hA => ?_
  refine x_m hA rfl fun ac hA => ?_
  refine wn (hK111 _ _ ?_)
  refine wp_ret ?_
  replace hS := hS.drop 0
  replace hS := hS.drop 0
  cases hF
  refine hQ _ _ ?_
  refine lv Tryz.results35 hA rfl ?_
  exact ⟨rfl, hS⟩
 replace hF := iff' hb110 hF
 refine wp_skip ?_
 refine hKx105 _ _ ?_
 refine hK104 _ _ ?_
 refine ws fun K112 hK112 => ?_
 refine x_fab fa37_0 hA (fun ac hA => ?_) rfl rfl rfl rfl rfl
 refine x_ld Tryz.underlying34 (hS.cell 1 rfl 0 _ rfl) hA (fun ac hA => ?_) rfl rfl rfl rfl rfl rfl
 refine x_fab fa37_0 hA (fun ac hA => ?_) rfl rfl rfl rfl rfl
 refine x_ld Tryz.underlying34 (hS.cell 0 rfl 0 _ rfl) hA (fun ac hA => ?_) rfl rfl rfl rfl rfl rfl
 refine x_v hA (r_ltI rfl (hA.ev rfl) (hA.ev rfl)) rfl fun ac hA => ?_
 refine x_m hA rfl fun ac hA => ?_
 refine wn (hK112 _ _ ?_)
 refine wp_ret ?_
 replace hS := hS.drop 0
 replace hS := hS.drop 0
 cases hF
 refine hQ _ _ ?_
 refine lv Tryz.results35 hA rfl ?_
 exact ⟨rfl, hS⟩
theorem F_event_Sort_1 {r : World} {L : List HP} {w : World} (a0 : S37) (a1 : S37) {y : (Int)} (hF : event_Sort_1 a0 a1 = some y) (hS : SH r (L) w) :
  Ret Tryz.prog 34 #[.agg #[.int .u64 a0.f0, .int .i64 a0.f1, .int .i64 a0.f2, str a0.f3, .float .f64 a0.f4], .agg #[.int .u64 a1.f0, .int .i64 a1.f1, .int .i64 a1.f2, str a1.f3, .float .f64 a1.f4]] w fun v w' => v = .int .i64 y ∧ SH r (L) w' := by
 refine enter Tryz.func34 rfl Tryz.ntmps34 [(0, .agg #[.int .u64 a0.f0, .int .i64 a0.f1, .int .i64 a0.f2, str a0.f3, .float .f64 a0.f4]), (1, .agg #[.int .u64 a1.f0, .int .i64 a1.f1, .int .i64 a1.f2, str a1.f3, .float .f64 a1.f4])] rfl (by simp) ?_
 intro ac hA Qf hQ hQn
 unfold event_Sort_1 at hF
 refine ws fun K101 hK101 => ?_
 refine x_box hA hS (fun g102 ac w hS hA => ?_) rfl rfl rfl rfl rfl rfl
 refine x_box hA hS (fun g103 ac w hS hA => ?_) rfl rfl rfl rfl rfl rfl
 refine x_m hA rfl fun ac hA => ?_
 refine wn (hK101 _ _ ?_)
 refine wp_seq_k fun K104 hK104 => ?_
 refine wp_block_k fun Kx105 hKx105 => ?_
 refine ws fun K106 hK106 => ?_
 refine x_lda (ad := ⟨g102, 0, none⟩) (cs := [.int .u64 a0.f0, .int .i64 a0.f1, .int .i64 a0.f2, str a0.f3, .float .f64 a0.f4]) Tryz.underlying37 sz37 (fun j u h => by rw [add_mk, Nat.zero_add]; exact hS.cell 1 rfl j u h) hA (fun ac hA => ?_) rfl rfl rfl rfl rfl rfl
 refine x_lda (ad := ⟨g103, 0, none⟩) (cs := [.int .u64 a1.f0, .int .i64 a1.f1, .int .i64 a1.f2, str a1.f3, .float .f64 a1.f4]) Tryz.underlying37 sz37 (fun j u h => by rw [add_mk, Nat.zero_add]; exact hS.cell 0 rfl j u h) hA (fun ac hA => ?_) rfl rfl rfl rfl rfl rfl
 obtain ⟨y107, h108, hF⟩ := bnd hF
 refine x_call en35 hA (F_event_Less (L := blk g103 37 [.int .u64 a1.f0, .int .i64 a1.f1, .int .i64 a1.f2, str a1.f3, .float .f64 a1.f4] :: blk g102 37 [.int .u64 a0.f0, .int .i64 a0.f1, .int .i64 a0.f2, str a0.f3, .float .f64 a0.f4] :: L) a0 a1 h108 hS) (fun v ac w hR hA => ?_) rfl rfl rfl rfl rfl
 obtain ⟨rfl, hS⟩ := hR
 refine x_m hA rfl fun ac hA => ?_
 refine wn (hK106 _ _ ?_)
 refine c_if hA rfl (fun hb109 => ?_) fun hb109 => ?_
 ·replace hF := ift hb109 hF
  refine ws fun K110 hK110 => ?_
  refine x_m hA rfl fun ac hA => ?_
  refine wn (hK110 _ _ ?_)
  refine wp_ret ?_
  replace hS := hS.drop 0
  replace hS := hS.drop 0
  cases hF
  refine hQ _ _ ?_
  refine lv Tryz.results34 hA rfl ?_
  exact ⟨rfl, hS⟩
 replace hF := iff' hb109 hF
 refine ws fun K111 hK111 => ?_
 refine x_lda (ad := ⟨g103, 0, none⟩) (cs := [.int .u64 a1.f0, .int .i64 a1.f1, .int .i64 a1.f2, str a1.f3, .float .f64 a1.f4]) Tryz.underlying37 sz37 (fun j u h => by rw [add_mk, Nat.zero_add]; exact hS.cell 0 rfl j u h) hA (fun ac hA => ?_) rfl rfl rfl rfl rfl rfl
 refine x_lda (ad := ⟨g102, 0, none⟩) (cs := [.int .u64 a0.f0, .int .i64 a0.f1, .int .i64 a0.f2, str a0.f3, .float .f64 a0.f4]) Tryz.underlying37 sz37 (fun j u h => by rw [add_mk, Nat.zero_add]; exact hS.cell 1 rfl j u h) hA (fun ac hA => ?_) rfl rfl rfl rfl rfl rfl
 obtain ⟨y112, h113, hF⟩ := bnd hF
 refine x_call en35 hA (F_event_Less (L := blk g103 37 [.int .u64 a1.f0, .int .i64 a1.f1, .int .i64 a1.f2, str a1.f3, .float .f64 a1.f4] :: blk g102 37 [.int .u64 a0.f0, .int .i64 a0.f1, .int .i64 a0.f2, str a0.f3, .float .f64 a0.f4] :: L) a1 a0 h113 hS) (fun v ac w hR hA => ?_) rfl rfl rfl rfl rfl
 obtain ⟨rfl, hS⟩ := hR
 refine x_m hA rfl fun ac hA => ?_
 refine wn (hK111 _ _ ?_)
 refine c_if hA rfl (fun hb114 => ?_) fun hb114 => ?_
 ·replace hF := ift hb114 hF
  refine ws fun K115 hK115 => ?_
  refine x_m hA rfl fun ac hA => ?_
  refine wn (hK115 _ _ ?_)
  refine wp_ret ?_
  replace hS := hS.drop 0
  replace hS := hS.drop 0
  cases hF
  refine hQ _ _ ?_
  refine lv Tryz.results34 hA rfl ?_
  exact ⟨rfl, hS⟩
 replace hF := iff' hb114 hF
 refine wp_skip ?_
 refine hKx105 _ _ ?_
 refine hK104 _ _ ?_
 refine ws fun K116 hK116 => ?_
 refine x_m hA rfl fun ac hA => ?_
 refine wn (hK116 _ _ ?_)
 refine wp_ret ?_
 replace hS := hS.drop 0
 replace hS := hS.drop 0
 cases hF
 refine hQ _ _ ?_
 refine lv Tryz.results34 hA rfl ?_
 exact ⟨rfl, hS⟩
theorem F_slices_Clone_api_Event_api_Event {r : World} {L : List HP} {w : World} (a0 : (List S37)) (A0 : Option Addr) (n0 : Nat) (c0 : Nat) {y : ((List S37))} (hF : slices_Clone_api_Event_api_Event a0 = some y) (ha0 : RdL L k37 A0 n0 c0 a0) (hS : SH r (L) w) :
  Ret Tryz.prog 32 #[.slice A0 n0 c0] w fun v w' => ∃ (B0 : Option Addr) (m0 : Nat) (d0 : Nat), v = .slice B0 m0 d0 ∧ SH r (own k37 37 B0 m0 d0 y :: L) w' := by
 refine enter Tryz.func32 rfl Tryz.ntmps32 [(0, .slice A0 n0 c0)] rfl (by simp) ?_
 intro ac hA Qf hQ hQn
 unfold slices_Clone_api_Event_api_Event at hF
 refine ws fun K101 hK101 => ?_
 refine x_m hA rfl fun ac hA => ?_
 refine wn (hK101 _ _ ?_)
 refine wp_seq_k fun K102 hK102 => ?_
 refine ws fun K103 hK103 => ?_
 refine x_m hA rfl fun ac hA => ?_
 rcases A0 with _ | ad104
 ·replace hF := nil_l (RdL.none_nil ha0 (hS.sfx 0)) hF
  refine x_v (v := .bool true) hA (r_eqNilS (p := none) Tryz.underlying23 rfl (hA.ev rfl) (hA.ev rfl)) rfl fun ac hA => ?_
  refine wn (hK103 _ _ ?_)
  refine c_t (b := true) rfl hA ?_ rfl
  refine ws fun K105 hK105 => ?_
  refine x_m hA rfl fun ac hA => ?_
  refine wn (hK105 _ _ ?_)
  refine wp_ret ?_
  replace hS := SH.nil_own (d := k37) (e := 37) hS
  cases hF
  refine hQ _ _ ?_
  refine lv Tryz.results32 hA rfl ?_
  exact ⟨none, 0, 0, rfl, hS⟩
 replace hF := nil_r hF
 refine x_v (v := .bool false) hA (r_eqNilS (p := some ad104) Tryz.underlying23 rfl (hA.ev rfl) (hA.ev rfl)) rfl fun ac hA => ?_
 refine wn (hK103 _ _ ?_)
 refine c_f (b := false) rfl hA ?_ rfl
 refine wp_skip ?_
 refine hK102 _ _ ?_
 refine ws fun K106 hK106 => ?_
 refine x_bsl (d := k37) (e := 37) (ps := #[]) (cells := []) (xs := []) (fun w => by kernel_rfl) rfl rfl hA hS (fun g107 ac w hS hA => ?_) rfl rfl rfl rfl rfl rfl
 refine x_m hA rfl fun ac hA => ?_
 obtain ⟨h108, hF⟩ := chk_some hF
 have hr := hS.rdl 1 ha0 rfl
 refine x_app 0 inf37 Tryz.underlying23 hA hS hr.1 hr.2.1 h108 rfl (fun A109 n110 c111 ac w hS hA => ?_) rfl rfl rfl rfl rfl rfl rfl rfl rfl
 rw [List.nil_append] at hS
 refine x_m hA rfl fun ac hA => ?_
 refine wn (hK106 _ _ ?_)
 refine wp_ret ?_
 cases hF
 refine hQ _ _ ?_
 refine lv Tryz.results32 hA rfl ?_
 exact ⟨A109, n110, c111, rfl, hS⟩
theorem F_slices_swapRangeCmpFunc_api_Event {r : World} {L : List HP} {w : World} (a0 : (List S37)) (a1 : Int) (a2 : Int) (a3 : Int) (A0 : Option Addr) (n0 : Nat) (c0 : Nat) {y : ((List S37))} (hF : slices_swapRangeCmpFunc_api_Event a0 a1 a2 a3 = some y) (hS : SH r (own k37 37 A0 n0 c0 a0 :: L) w) :
  Ret Tryz.prog 99 #[.slice A0 n0 c0, .int .i64 a1, .int .i64 a2, .int .i64 a3, .func (.func 34) #[] #[]] w fun v w' => v = .tuple #[] ∧ SH r (own k37 37 A0 n0 c0 y :: L) w' := by
 refine enter Tryz.func99 rfl Tryz.ntmps99 [(0, .slice A0 n0 c0), (1, .int .i64 a1), (2, .int .i64 a2), (3, .int .i64 a3), (4, .func (.func 34) #[] #[])] rfl (by simp) ?_
 intro ac hA Qf hQ hQn
 unfold slices_swapRangeCmpFunc_api_Event at hF
 refine ws fun K101 hK101 => ?_
 refine x_m hA rfl fun ac hA => ?_
 refine wn (hK101 _ _ ?_)
 refine wp_block_k fun Kx102 hKx102 => ?_
 have hb1 : ∀ (l150 : (List S37)), slices_swapRangeCmpFunc_api_Event_b1 l150 = some y → ∀ (ac : Act) (w : World), FR 38 [] ac [(0, .slice A0 n0 c0), (4, .func (.func 34) #[] #[])] → SH r (own k37 37 A0 n0 c0 l150 :: L) w → Kx102 ac w := by
  intro l150 hF ac w hA hS
  unfold slices_swapRangeCmpFunc_api_Event_b1 at hF
  refine hKx102 _ _ ?_
  cases hF
  refine hQn _ _ ?_
  refine lv0n Tryz.results99 hA ?_
  exact ⟨rfl, hS⟩
 obtain ⟨t183, hl183, hF⟩ := bnd hF
 have hx183_0 : ∀ (l183 : (List S37)), (l183) = t183 → ∀ (ac : Act) (w : World), FR 38 [] ac [(0, .slice A0 n0 c0), (4, .func (.func 34) #[] #[])] → SH r (own k37 37 A0 n0 c0 l183 :: L) w → Kx102 ac w := by
  intro l183 ht ac w hA hS
  subst ht
  replace hF : slices_swapRangeCmpFunc_api_Event_x1_0 l183 = some y := hF
  unfold slices_swapRangeCmpFunc_api_Event_x1_0 at hF
  exact hb1 l183 hF ac w (hA.sub _ rfl) hS
 refine wp_loop_fn hl183 (fun s ac w => FR 38 [] ac [(0, .slice A0 n0 c0), (1, .int .i64 a1), (2, .int .i64 a2), (3, .int .i64 a3), (4, .func (.func 34) #[] #[]), (10, .int .i64 s.2)] ∧ SH r (own k37 37 A0 n0 c0 s.1 :: L) w) ⟨hA.sub _ rfl, hS⟩ ?_
 intro N183 s183 o183 hF N183_ T183_ ac w hLab
 obtain ⟨l166, x167⟩ := s183
 replace hF : slices_swapRangeCmpFunc_api_Event_l1 a1 a2 a3 l166 x167 = some o183 := hF
 unfold slices_swapRangeCmpFunc_api_Event_l1 at hF
 try dsimp only at hLab
 obtain ⟨hA, hS⟩ := hLab
 refine wp_seq_k fun K185 hK185 => ?_
 refine ws fun K186 hK186 => ?_
 refine x_m hA rfl fun ac hA => ?_
 refine x_m hA rfl fun ac hA => ?_
 refine x_v hA (r_ltI rfl (hA.ev rfl) (hA.ev rfl)) rfl fun ac hA => ?_
 refine wn (hK186 _ _ ?_)
 refine c_if hA rfl (fun hb187 => ?_) fun hb187 => ?_
 ·replace hF := ift hb187 hF
  refine wp_skip ?_
  refine hK185 _ _ ?_
  refine wp_seq_k fun K188 hK188 => ?_
  refine wp_block_k fun Kx189 hKx189 => ?_
  refine wp_draw [0, 0, 0, 6, 0, 0, 0, 96, 0, 0, 0, 1536, 3840, 7936, 0, 0, 0, 98304, 245760, 507904, 1048335, 2096911, 4194303, 8388607] [21, 23] rfl hA hS (by kernel_rfl) (by kernel_rfl) (by kernel_rfl) (by kernel_rfl) fun w hS => ?_
  obtain ⟨x190, h191, hF⟩ := bnd hF
  obtain ⟨cs, hV, hc192⟩ := el (hS.rd 0 rfl) h191
  obtain rfl := hV
  obtain ⟨x193, h194, hF⟩ := bnd hF
  obtain ⟨cs, hV, hc195⟩ := el (hS.rd 0 rfl) h194
  obtain rfl := hV
  refine ⟨[(0, .slice A0 n0 c0), (1, .int .i64 a1), (2, .int .i64 x167), (3, .int .i64 (IntKind.i64.wrap (a1 + x167))), (4, .slice A0 n0 c0), (5, .int .i64 a2), (6, .int .i64 x167), (7, .int .i64 (IntKind.i64.wrap (a2 + x167))), (8, .slice A0 n0 c0), (9, .int .i64 a2), (10, .int .i64 x167), (11, .int .i64 (IntKind.i64.wrap (a2 + x167))), (12, .pointer (some (ea A0 ((IntKind.i64.wrap (a2 + x167)).toNat * 5)))), (13, .agg #[.int .u64 x190.f0, .int .i64 x190.f1, .int .i64 x190.f2, str x190.f3, .float .f64 x190.f4]), (14, .slice A0 n0 c0), (15, .int .i64 a1), (16, .int .i64 x167), (17, .int .i64 (IntKind.i64.wrap (a1 + x167))), (18, .pointer (some (ea A0 ((IntKind.i64.wrap (a1 + x167)).toNat * 5)))), (19, .agg #[.int .u64 x193.f0, .int .i64 x193.f1, .int .i64 x193.f2, str x193.f3, .float .f64 x193.f4]), (20, .pointer (some (ea A0 ((IntKind.i64.wrap (a1 + x167)).toNat * 5))))], ?_⟩
  refine dEff [0, 1, 2, 3, 4, 5, 6, 7, 8, 9, 10, 11, 12, 13, 14, 15, 16, 17, 18, 19, 20] [21] (by kernel_rfl) ⟨pu rfl rfl [(0, .slice A0 n0 c0)] (fun ac hA => y_move hA rfl rfl) rfl rfl, pu rfl rfl [(1, .int .i64 a1)] (fun ac hA => y_move hA rfl rfl) rfl rfl, pu rfl rfl [(10, .int .i64 x167)] (fun ac hA => y_move hA rfl rfl) rfl rfl, pu rfl rfl [(17, .int .i64 a1), (18, .int .i64 x167)] (fun ac hA => r_add rfl (hA.ev rfl) (hA.ev rfl)) rfl rfl, pu rfl rfl [(0, .slice A0 n0 c0)] (fun ac hA => y_move hA rfl rfl) rfl rfl, pu rfl rfl [(2, .int .i64 a2)] (fun ac hA => y_move hA rfl rfl) rfl rfl, pu rfl rfl [(10, .int .i64 x167)] (fun ac hA => y_move hA rfl rfl) rfl rfl, pu rfl rfl [(21, .int .i64 a2), (22, .int .i64 x167)] (fun ac hA => r_add rfl (hA.ev rfl) (hA.ev rfl)) rfl rfl, pu rfl rfl [(0, .slice A0 n0 c0)] (fun ac hA => y_move hA rfl rfl) rfl rfl, pu rfl rfl [(2, .int .i64 a2)] (fun ac hA => y_move hA rfl rfl) rfl rfl, pu rfl rfl [(10, .int .i64 x167)] (fun ac hA => y_move hA rfl rfl) rfl rfl, pu rfl rfl [(25, .int .i64 a2), (26, .int .i64 x167)] (fun ac hA => r_add rfl (hA.ev rfl) (hA.ev rfl)) rfl rfl, pu rfl rfl [(24, .slice A0 n0 c0), (27, .int .i64 (IntKind.i64.wrap (a2 + x167)))] (fun ac hA => y_ia Tryz.underlying23 sz37 (hS.rd 0 rfl) h191 hA rfl rfl rfl) rfl rfl, pu rfl rfl [(28, .pointer (some (ea A0 ((IntKind.i64.wrap (a2 + x167)).toNat * 5))))] (fun ac hA => y_lda (cs := [.int .u64 x190.f0, .int .i64 x190.f1, .int .i64 x190.f2, str x190.f3, .float .f64 x190.f4]) Tryz.underlying37 sz37 (fun j u h => by rw [ea_add]; exact hc192 _ _ h) hA rfl rfl rfl) rfl rfl, pu rfl rfl [(0, .slice A0 n0 c0)] (fun ac hA => y_move hA rfl rfl) rfl rfl, pu rfl rfl [(1, .int .i64 a1)] (fun ac hA => y_move hA rfl rfl) rfl rfl, pu rfl rfl [(10, .int .i64 x167)] (fun ac hA => y_move hA rfl rfl) rfl rfl, pu rfl rfl [(31, .int .i64 a1), (32, .int .i64 x167)] (fun ac hA => r_add rfl (hA.ev rfl) (hA.ev rfl)) rfl rfl, pu rfl rfl [(30, .slice A0 n0 c0), (33, .int .i64 (IntKind.i64.wrap (a1 + x167)))] (fun ac hA => y_ia Tryz.underlying23 sz37 (hS.rd 0 rfl) h194 hA rfl rfl rfl) rfl rfl, pu rfl rfl [(34, .pointer (some (ea A0 ((IntKind.i64.wrap (a1 + x167)).toNat * 5))))] (fun ac hA => y_lda (cs := [.int .u64 x193.f0, .int .i64 x193.f1, .int .i64 x193.f2, str x193.f3, .float .f64 x193.f4]) Tryz.underlying37 sz37 (fun j u h => by rw [ea_add]; exact hc195 _ _ h) hA rfl rfl rfl) rfl rfl, pu rfl rfl [(16, .slice A0 n0 c0), (19, .int .i64 (IntKind.i64.wrap (a1 + x167)))] (fun ac hA => y_ia Tryz.underlying23 sz37 (hS.rd 0 rfl) h194 hA rfl rfl rfl) rfl rfl, trivial⟩ (by kernel_rfl) (by kernel_rfl) ⟨ef rfl [(29, .agg #[.int .u64 x190.f0, .int .i64 x190.f1, .int .i64 x190.f2, str x190.f3, .float .f64 x190.f4]), (36, .pointer (some (ea A0 ((IntKind.i64.wrap (a1 + x167)).toNat * 5))))] (fun ac hA K hK => ?_) rfl rfl, trivial⟩
  refine z_sto (z' := x190) (off := 0) (vs := [.int .u64 x190.f0, .int .i64 x190.f1, .int .i64 x190.f2, str x190.f3, .float .f64 x190.f4]) 0 sz37 hA hS rfl (at_some h194).2.2 (fun c h => by cases h; rfl) (fun  w hS => ?_) rfl rfl rfl rfl rfl rfl
  obtain ⟨x196, h197, hF⟩ := bnd hF
  refine hK _ [(22, .pointer (some (ea A0 ((IntKind.i64.wrap (a2 + x167)).toNat * 5))))] _ rfl ?_
  refine dEff [4, 5, 6, 7, 22] [23] (by kernel_rfl) ⟨pu rfl rfl [(0, .slice A0 n0 c0)] (fun ac hA => y_move hA rfl rfl) rfl rfl, pu rfl rfl [(2, .int .i64 a2)] (fun ac hA => y_move hA rfl rfl) rfl rfl, pu rfl rfl [(10, .int .i64 x167)] (fun ac hA => y_move hA rfl rfl) rfl rfl, pu rfl rfl [(21, .int .i64 a2), (22, .int .i64 x167)] (fun ac hA => r_add rfl (hA.ev rfl) (hA.ev rfl)) rfl rfl, pu rfl rfl [(20, .slice A0 n0 c0), (23, .int .i64 (IntKind.i64.wrap (a2 + x167)))] (fun ac hA => y_ia Tryz.underlying23 sz37 (hS.rd 0 rfl) h197 hA rfl rfl rfl) rfl rfl, trivial⟩ (by kernel_rfl) (by kernel_rfl) ⟨ef rfl [(35, .agg #[.int .u64 x193.f0, .int .i64 x193.f1, .int .i64 x193.f2, str x193.f3, .float .f64 x193.f4]), (37, .pointer (some (ea A0 ((IntKind.i64.wrap (a2 + x167)).toNat * 5))))] (fun ac hA K hK => ?_) rfl rfl, trivial⟩
  refine z_sto (z' := x193) (off := 0) (vs := [.int .u64 x193.f0, .int .i64 x193.f1, .int .i64 x193.f2, str x193.f3, .float .f64 x193.f4]) 0 sz37 hA hS rfl (at_some h197).2.2 (fun c h => by cases h; rfl) (fun  w hS => ?_) rfl rfl rfl rfl rfl rfl
  refine hK _ [] _ rfl ?_
  refine dEnd [] (by kernel_rfl) trivial ⟨by kernel_rfl, by kernel_rfl⟩ [(0, .slice A0 n0 c0), (1, .int .i64 a1), (2, .int .i64 a2), (3, .int .i64 a3), (4, .func (.func 34) #[] #[]), (10, .int .i64 x167)] rfl (fun ac hA => ?_)
  refine hKx189 _ _ ?_
  refine hK188 _ _ ?_
  refine wp_reg ?_
  refine x_m hA rfl fun ac hA => ?_
  refine x_v hA (r_add rfl (hA.ev rfl) (hA.ev rfl)) rfl fun ac hA => ?_
  refine x_m hA rfl fun ac hA => ?_
  refine wpList_nil ?_
  cases hF
  exact ⟨_, N183_ _ rfl, hA.sub _ rfl, hS⟩
 replace hF := iff' hb187 hF
 refine wp_exit ?_
 cases hF
 exact hx183_0 l166 (T183_ _ rfl) ac w (hA.sub _ rfl) hS
theorem F_slices_rotateCmpFunc_api_Event {r : World} {L : List HP} {w : World} (a0 : (List S37)) (a1 : Int) (a2 : Int) (a3 : Int) (A0 : Option Addr) (n0 : Nat) (c0 : Nat) {y : ((List S37))} (hF : slices_rotateCmpFunc_api_Event a0 a1 a2 a3 = some y) (hS : SH r (own k37 37 A0 n0 c0 a0 :: L) w) :
  Ret Tryz.prog 89 #[.slice A0 n0 c0, .int .i64 a1, .int .i64 a2, .int .i64 a3, .func (.func 34) #[] #[]] w fun v w' => v = .tuple #[] ∧ SH r (own k37 37 A0 n0 c0 y :: L) w' := by
 refine enter Tryz.func89 rfl Tryz.ntmps89 [(0, .slice A0 n0 c0), (1, .int .i64 a1), (2, .int .i64 a2), (3, .int .i64 a3), (4, .func (.func 34) #[] #[])] rfl (by simp) ?_
 intro ac hA Qf hQ hQn
 unfold slices_rotateCmpFunc_api_Event at hF
 refine ws fun K101 hK101 => ?_
 refine x_m hA rfl fun ac hA => ?_
 refine x_m hA rfl fun ac hA => ?_
 refine x_v hA (r_sub rfl (hA.ev rfl) (hA.ev rfl)) rfl fun ac hA => ?_
 refine x_m hA rfl fun ac hA => ?_
 refine wn (hK101 _ _ ?_)
 refine ws fun K102 hK102 => ?_
 refine x_m hA rfl fun ac hA => ?_
 refine x_m hA rfl fun ac hA => ?_
 refine x_v hA (r_sub rfl (hA.ev rfl) (hA.ev rfl)) rfl fun ac hA => ?_
 refine x_m hA rfl fun ac hA => ?_
 refine wn (hK102 _ _ ?_)
 refine wp_seq_k fun K103 hK103 => ?_
 refine wp_block_k fun Kx276 hKx276 => ?_
 have hb1 : ∀ (l361 : (List S37)) (x362 : Int), slices_rotateCmpFunc_api_Event_b1 a2 l361 x362 = some y → ∀ (ac : Act) (w : World), FR 58 [] ac [(0, .slice A0 n0 c0), (2, .int .i64 a2), (4, .func (.func 34) #[] #[]), (10, .int .i64 x362)] → SH r (own k37 37 A0 n0 c0 l361 :: L) w → Kx276 ac w := by
  intro l361 x362 hF ac w hA hS
  unfold slices_rotateCmpFunc_api_Event_b1 at hF
  refine hKx276 _ _ ?_
  refine hK103 _ _ ?_
  refine wp_reg ?_
  refine x_m hA rfl fun ac hA => ?_
  refine x_m hA rfl fun ac hA => ?_
  refine x_m hA rfl fun ac hA => ?_
  refine x_v hA (r_sub rfl (hA.ev rfl) (hA.ev rfl)) rfl fun ac hA => ?_
  refine x_m hA rfl fun ac hA => ?_
  refine x_m hA rfl fun ac hA => ?_
  refine x_m hA rfl fun ac hA => ?_
  obtain ⟨y363, h364, hF⟩ := bnd hF
  refine x_call en99 hA (F_slices_swapRangeCmpFunc_api_Event (L := L) l361 (IntKind.i64.wrap (a2 - x362)) a2 x362 A0 n0 c0 h364 hS) (fun v ac w hR hA => ?_) rfl rfl rfl rfl rfl
  obtain ⟨rfl, hS⟩ := hR
  refine wpList_nil ?_
  cases hF
  refine hQn _ _ ?_
  refine lv0n Tryz.results89 hA ?_
  exact ⟨rfl, hS⟩
 obtain ⟨t423, hl423, hF⟩ := bnd hF
 have hx423_0 : ∀ (l422 : (List S37)) (x423 : Int), (l422, x423) = t423 → ∀ (ac : Act) (w : World), FR 58 [] ac [(0, .slice A0 n0 c0), (2, .int .i64 a2), (4, .func (.func 34) #[] #[]), (10, .int .i64 x423)] → SH r (own k37 37 A0 n0 c0 l422 :: L) w → Kx276 ac w := by
  intro l422 x423 ht ac w hA hS
  subst ht
  replace hF : slices_rotateCmpFunc_api_Event_x1_0 a2 l422 x423 = some y := hF
  unfold slices_rotateCmpFunc_api_Event_x1_0 at hF
  exact hb1 l422 x423 hF ac w (hA.sub _ rfl) hS
 refine wp_loop_fn hl423 (fun s ac w => FR 58 [] ac [(0, .slice A0 n0 c0), (2, .int .i64 a2), (4, .func (.func 34) #[] #[]), (10, .int .i64 s.2.1), (11, .int .i64 s.2.2)] ∧ SH r (own k37 37 A0 n0 c0 s.1 :: L) w) ⟨hA.sub _ rfl, hS⟩ ?_
 intro N423 s423 o423 hF N423_ T423_ ac w hLab
 obtain ⟨l392, x393, x394⟩ := s423
 replace hF : slices_rotateCmpFunc_api_Event_l1 a2 l392 x393 x394 = some o423 := hF
 unfold slices_rotateCmpFunc_api_Event_l1 at hF
 try dsimp only at hLab
 obtain ⟨hA, hS⟩ := hLab
 refine wp_seq_k fun K425 hK425 => ?_
 refine ws fun K426 hK426 => ?_
 refine x_m hA rfl fun ac hA => ?_
 refine x_m hA rfl fun ac hA => ?_
 refine x_v hA (r_neI rfl (hA.ev rfl) (hA.ev rfl)) rfl fun ac hA => ?_
 refine wn (hK426 _ _ ?_)
 refine c_if hA rfl (fun hb427 => ?_) fun hb427 => ?_
 ·replace hF := ift hb427 hF
  refine wp_skip ?_
  refine hK425 _ _ ?_
  refine wp_block_k fun Kx428 hKx428 => ?_
  have hb2 : ∀ (l437 : (List S37)) (x438 : Int) (x439 : Int), slices_rotateCmpFunc_api_Event_b2 l437 x438 x439 = some o423 → ∀ (ac : Act) (w : World), FR 58 [] ac [(0, .slice A0 n0 c0), (2, .int .i64 a2), (4, .func (.func 34) #[] #[]), (10, .int .i64 x438), (11, .int .i64 x439)] → SH r (own k37 37 A0 n0 c0 l437 :: L) w → Kx428 ac w := by
   intro l437 x438 x439 hF ac w hA hS
   unfold slices_rotateCmpFunc_api_Event_b2 at hF
   refine hKx428 _ _ ?_
   cases hF
   exact ⟨_, N423_ _ rfl, hA.sub _ rfl, hS⟩
  refine ws fun K440 hK440 => ?_
  refine x_m hA rfl fun ac hA => ?_
  refine x_m hA rfl fun ac hA => ?_
  refine x_v hA (r_gtI rfl (hA.ev rfl) (hA.ev rfl)) rfl fun ac hA => ?_
  refine wn (hK440 _ _ ?_)
  refine c_if hA rfl (fun hb441 => ?_) fun hb441 => ?_
  ·replace hF := ift hb441 hF
   refine ws fun K442 hK442 => ?_
   refine x_m hA rfl fun ac hA => ?_
   refine x_m hA rfl fun ac hA => ?_
   refine x_m hA rfl fun ac hA => ?_
   refine x_v hA (r_sub rfl (hA.ev rfl) (hA.ev rfl)) rfl fun ac hA => ?_
   refine x_m hA rfl fun ac hA => ?_
   refine x_m hA rfl fun ac hA => ?_
   refine x_m hA rfl fun ac hA => ?_
   obtain ⟨y443, h444, hF⟩ := bnd hF
   refine x_call en99 hA (F_slices_swapRangeCmpFunc_api_Event (L := L) l392 (IntKind.i64.wrap (a2 - x393)) a2 x394 A0 n0 c0 h444 hS) (fun v ac w hR hA => ?_) rfl rfl rfl rfl rfl
   obtain ⟨rfl, hS⟩ := hR
   refine wn (hK442 _ _ ?_)
   refine wp_reg ?_
   refine x_m hA rfl fun ac hA => ?_
   refine x_m hA rfl fun ac hA => ?_
   refine x_v hA (r_sub rfl (hA.ev rfl) (hA.ev rfl)) rfl fun ac hA => ?_
   refine x_m hA rfl fun ac hA => ?_
   refine wpList_nil ?_
   exact hb2 y443 (IntKind.i64.wrap (x393 - x394)) x394 hF ac w (hA.sub _ rfl) hS
  replace hF := iff' hb441 hF
  refine ws fun K445 hK445 => ?_
  refine x_m hA rfl fun ac hA => ?_
  refine x_m hA rfl fun ac hA => ?_
  refine x_m hA rfl fun ac hA => ?_
  refine x_v hA (r_sub rfl (hA.ev rfl) (hA.ev rfl)) rfl fun ac hA => ?_
  refine x_m hA rfl fun ac hA => ?_
  refine x_m hA rfl fun ac hA => ?_
  refine x_v hA (r_add rfl (hA.ev rfl) (hA.ev rfl)) rfl fun ac hA => ?_
  refine x_m hA rfl fun ac hA => ?_
  refine x_v hA (r_sub rfl (hA.ev rfl) (hA.ev rfl)) rfl fun ac hA => ?_
  refine x_m hA rfl fun ac hA => ?_
  refine x_m hA rfl fun ac hA => ?_
  obtain ⟨y446, h447, hF⟩ := bnd hF
  refine x_call en99 hA (F_slices_swapRangeCmpFunc_api_Event (L := L) l392 (IntKind.i64.wrap (a2 - x393)) (IntKind.i64.wrap ((IntKind.i64.wrap (a2 + x394)) - x393)) x393 A0 n0 c0 h447 hS) (fun v ac w hR hA => ?_) rfl rfl rfl rfl rfl
  obtain ⟨rfl, hS⟩ := hR
  refine wn (hK445 _ _ ?_)
  refine wp_reg ?_
  refine x_m hA rfl fun ac hA => ?_
  refine x_m hA rfl fun ac hA => ?_
  refine x_v hA (r_sub rfl (hA.ev rfl) (hA.ev rfl)) rfl fun ac hA => ?_
  refine x_m hA rfl fun ac hA => ?_
  refine wpList_nil ?_
  exact hb2 y446 x393 (IntKind.i64.wrap (x394 - x393)) hF ac w (hA.sub _ rfl) hS
 replace hF := iff' hb427 hF
 refine wp_exit ?_
 cases hF
 exact hx423_0 l392 x393 (T423_ _ rfl) ac w (hA.sub _ rfl) hS
theorem Fs_slices_symMergeCmpFunc_api_Event (rec_ : (List S37) → Int → Int → Int → Option ((List S37))) (hrec : ∀ {r : World} {L : List HP} {w : World} (a0 : (List S37)) (a1 : Int) (a2 : Int) (a3 : Int) (A0 : Option Addr) (n0 : Nat) (c0 : Nat) {y : ((List S37))} (hF : rec_ a0 a1 a2 a3 = some y) (hS : SH r (own k37 37 A0 n0 c0 a0 :: L) w), Ret Tryz.prog 81 #[.slice A0 n0 c0, .int .i64 a1, .int .i64 a2, .int .i64 a3, .func (.func 34) #[] #[]] w fun v w' => v = .tuple #[] ∧ SH r (own k37 37 A0 n0 c0 y :: L) w') {r : World} {L : List HP} {w : World} (a0 : (List S37)) (a1 : Int) (a2 : Int) (a3 : Int) (A0 : Option Addr) (n0 : Nat) (c0 : Nat) {y : ((List S37))} (hF : slices_symMergeCmpFunc_api_Event_s rec_ a0 a1 a2 a3 = some y) (hS : SH r (own k37 37 A0 n0 c0 a0 :: L) w) :
  Ret Tryz.prog 81 #[.slice A0 n0 c0, .int .i64 a1, .int .i64 a2, .int .i64 a3, .func (.func 34) #[] #[]] w fun v w' => v = .tuple #[] ∧ SH r (own k37 37 A0 n0 c0 y :: L) w' := by
 refine enter Tryz.func81 rfl Tryz.ntmps81 [(0, .slice A0 n0 c0), (1, .int .i64 a1), (2, .int .i64 a2), (3, .int .i64 a3), (4, .func (.func 34) #[] #[])] rfl (by simp) ?_
 intro ac hA Qf hQ hQn
 unfold slices_symMergeCmpFunc_api_Event_s at hF
 refine wp_seq_k fun K101 hK101 => ?_
 refine ws fun K102 hK102 => ?_
 refine x_m hA rfl fun ac hA => ?_
 refine x_m hA rfl fun ac hA => ?_
 refine x_v hA (r_sub rfl (hA.ev rfl) (hA.ev rfl)) rfl fun ac hA => ?_
 refine x_v hA (r_eqI rfl (hA.ev rfl) (hA.ev rfl)) rfl fun ac hA => ?_
 refine wn (hK102 _ _ ?_)
 refine c_if hA rfl (fun hb103 => ?_) fun hb103 => ?_
 ·replace hF := ift hb103 hF
  refine ws fun K104 hK104 => ?_
  refine x_m hA rfl fun ac hA => ?_
  refine x_m hA rfl fun ac hA => ?_
  refine wn (hK104 _ _ ?_)
  refine ws fun K105 hK105 => ?_
  refine x_m hA rfl fun ac hA => ?_
  refine x_m hA rfl fun ac hA => ?_
  refine wn (hK105 _ _ ?_)
  refine wp_seq_k fun K106 hK106 => ?_
  refine wp_block_k fun Kx300 hKx300 => ?_
  have hb1 : ∀ (x396 : Int), slices_symMergeCmpFunc_api_Event_b1 a0 a1 x396 = some y → ∀ (ac : Act) (w : World), FR 220 [] ac [(0, .slice A0 n0 c0), (1, .int .i64 a1), (4, .func (.func 34) #[] #[]), (10, .int .i64 x396)] → SH r (own k37 37 A0 n0 c0 a0 :: L) w → Kx300 ac w := by
   intro x396 hF ac w hA hS
   unfold slices_symMergeCmpFunc_api_Event_b1 at hF
   refine hKx300 _ _ ?_
   refine hK106 _ _ ?_
   refine wp_seq_k fun K397 hK397 => ?_
   refine ws fun K398 hK398 => ?_
   refine x_m hA rfl fun ac hA => ?_
   refine x_m hA rfl fun ac hA => ?_
   refine wn (hK398 _ _ ?_)
   refine wp_block_k fun Kx399 hKx399 => ?_
   have hb2 : ∀ (l447 : (List S37)), slices_symMergeCmpFunc_api_Event_b2 l447 = some y → ∀ (ac : Act) (w : World), FR 220 [] ac [(0, .slice A0 n0 c0), (4, .func (.func 34) #[] #[])] → SH r (own k37 37 A0 n0 c0 l447 :: L) w → Kx399 ac w := by
    intro l447 hF ac w hA hS
    unfold slices_symMergeCmpFunc_api_Event_b2 at hF
    refine hKx399 _ _ ?_
    refine hK397 _ _ ?_
    refine wp_ret ?_
    cases hF
    refine hQ _ _ ?_
    refine lv0 Tryz.results81 hA ?_
    exact ⟨rfl, hS⟩
   obtain ⟨t480, hl480, hF⟩ := bnd hF
   have hx480_2 : ∀ (l480 : (List S37)), (l480) = t480 → ∀ (ac : Act) (w : World), FR 220 [] ac [(0, .slice A0 n0 c0), (4, .func (.func 34) #[] #[])] → SH r (own k37 37 A0 n0 c0 l480 :: L) w → Kx399 ac w := by
    intro l480 ht ac w hA hS
    subst ht
    replace hF : slices_symMergeCmpFunc_api_Event_x1_2 l480 = some y := hF
    unfold slices_symMergeCmpFunc_api_Event_x1_2 at hF
    exact hb2 l480 hF ac w (hA.sub _ rfl) hS
   refine wp_loop_fn hl480 (fun s ac w => FR 220 [] ac [(0, .slice A0 n0 c0), (4, .func (.func 34) #[] #[]), (10, .int .i64 x396), (13, .int .i64 s.2)] ∧ SH r (own k37 37 A0 n0 c0 s.1 :: L) w) ⟨hA.sub _ rfl, hS⟩ ?_
   intro N480 s480 o480 hF N480_ T480_ ac w hLab
   obtain ⟨l463, x464⟩ := s480
   replace hF : slices_symMergeCmpFunc_api_Event_l1 x396 l463 x464 = some o480 := hF
   unfold slices_symMergeCmpFunc_api_Event_l1 at hF
   try dsimp only at hLab
   obtain ⟨hA, hS⟩ := hLab
   refine wp_seq_k fun K482 hK482 => ?_
   refine ws fun K483 hK483 => ?_
   refine x_m hA rfl fun ac hA => ?_
   refine x_m hA rfl fun ac hA => ?_
   refine x_v hA (r_sub rfl (hA.ev rfl) (hA.ev rfl)) rfl fun ac hA => ?_
   refine x_v hA (r_ltI rfl (hA.ev rfl) (hA.ev rfl)) rfl fun ac hA => ?_
   refine wn (hK483 _ _ ?_)
   refine c_if hA rfl (fun hb484 => ?_) fun hb484 => ?_
   ·replace hF := ift hb484 hF
    refine wp_skip ?_
    refine hK482 _ _ ?_
    refine wp_seq_k fun K485 hK485 => ?_
    refine wp_block_k fun Kx486 hKx486 => ?_
    refine wp_draw [0, 0, 0, 0, 8, 0, 0, 64, 224, 480, 0, 0, 3072, 7168, 16355, 32739, 65535, 131071] [15, 17] rfl hA hS (by kernel_rfl) (by kernel_rfl) (by kernel_rfl) (by kernel_rfl) fun w hS => ?_
    obtain ⟨x487, h488, hF⟩ := bnd hF
    obtain ⟨cs, hV, hc489⟩ := el (hS.rd 0 rfl) h488
    obtain rfl := hV
    obtain ⟨x490, h491, hF⟩ := bnd hF
    obtain ⟨cs, hV, hc492⟩ := el (hS.rd 0 rfl) h491
    obtain rfl := hV
    refine ⟨[(0, .slice A0 n0 c0), (1, .int .i64 x464), (2, .slice A0 n0 c0), (3, .int .i64 x464), (4, .int .i64 (IntKind.i64.wrap (x464 + 1))), (5, .slice A0 n0 c0), (6, .int .i64 x464), (7, .int .i64 (IntKind.i64.wrap (x464 + 1))), (8, .pointer (some (ea A0 ((IntKind.i64.wrap (x464 + 1)).toNat * 5)))), (9, .agg #[.int .u64 x487.f0, .int .i64 x487.f1, .int .i64 x487.f2, str x487.f3, .float .f64 x487.f4]), (10, .slice A0 n0 c0), (11, .int .i64 x464), (12, .pointer (some (ea A0 (x464.toNat * 5)))), (13, .agg #[.int .u64 x490.f0, .int .i64 x490.f1, .int .i64 x490.f2, str x490.f3, .float .f64 x490.f4]), (14, .pointer (some (ea A0 (x464.toNat * 5))))], ?_⟩
    refine dEff [0, 1, 2, 3, 4, 5, 6, 7, 8, 9, 10, 11, 12, 13, 14] [15] (by kernel_rfl) ⟨pu rfl rfl [(0, .slice A0 n0 c0)] (fun ac hA => y_move hA rfl rfl) rfl rfl, pu rfl rfl [(13, .int .i64 x464)] (fun ac hA => y_move hA rfl rfl) rfl rfl, pu rfl rfl [(0, .slice A0 n0 c0)] (fun ac hA => y_move hA rfl rfl) rfl rfl, pu rfl rfl [(13, .int .i64 x464)] (fun ac hA => y_move hA rfl rfl) rfl rfl, pu rfl rfl [(64, .int .i64 x464)] (fun ac hA => r_add rfl (hA.ev rfl) (hA.ev rfl)) rfl rfl, pu rfl rfl [(0, .slice A0 n0 c0)] (fun ac hA => y_move hA rfl rfl) rfl rfl, pu rfl rfl [(13, .int .i64 x464)] (fun ac hA => y_move hA rfl rfl) rfl rfl, pu rfl rfl [(67, .int .i64 x464)] (fun ac hA => r_add rfl (hA.ev rfl) (hA.ev rfl)) rfl rfl, pu rfl rfl [(66, .slice A0 n0 c0), (68, .int .i64 (IntKind.i64.wrap (x464 + 1)))] (fun ac hA => y_ia Tryz.underlying23 sz37 (hS.rd 0 rfl) h488 hA rfl rfl rfl) rfl rfl, pu rfl rfl [(69, .pointer (some (ea A0 ((IntKind.i64.wrap (x464 + 1)).toNat * 5))))] (fun ac hA => y_lda (cs := [.int .u64 x487.f0, .int .i64 x487.f1, .int .i64 x487.f2, str x487.f3, .float .f64 x487.f4]) Tryz.underlying37 sz37 (fun j u h => by rw [ea_add]; exact hc489 _ _ h) hA rfl rfl rfl) rfl rfl, pu rfl rfl [(0, .slice A0 n0 c0)] (fun ac hA => y_move hA rfl rfl) rfl rfl, pu rfl rfl [(13, .int .i64 x464)] (fun ac hA => y_move hA rfl rfl) rfl rfl, pu rfl rfl [(71, .slice A0 n0 c0), (72, .int .i64 x464)] (fun ac hA => y_ia Tryz.underlying23 sz37 (hS.rd 0 rfl) h491 hA rfl rfl rfl) rfl rfl, pu rfl rfl [(73, .pointer (some (ea A0 (x464.toNat * 5))))] (fun ac hA => y_lda (cs := [.int .u64 x490.f0, .int .i64 x490.f1, .int .i64 x490.f2, str x490.f3, .float .f64 x490.f4]) Tryz.underlying37 sz37 (fun j u h => by rw [ea_add]; exact hc492 _ _ h) hA rfl rfl rfl) rfl rfl, pu rfl rfl [(61, .slice A0 n0 c0), (62, .int .i64 x464)] (fun ac hA => y_ia Tryz.underlying23 sz37 (hS.rd 0 rfl) h491 hA rfl rfl rfl) rfl rfl, trivial⟩ (by kernel_rfl) (by kernel_rfl) ⟨ef rfl [(70, .agg #[.int .u64 x487.f0, .int .i64 x487.f1, .int .i64 x487.f2, str x487.f3, .float .f64 x487.f4]), (75, .pointer (some (ea A0 (x464.toNat * 5))))] (fun ac hA K hK => ?_) rfl rfl, trivial⟩
    refine z_sto (z' := x487) (off := 0) (vs := [.int .u64 x487.f0, .int .i64 x487.f1, .int .i64 x487.f2, str x487.f3, .float .f64 x487.f4]) 0 sz37 hA hS rfl (at_some h491).2.2 (fun c h => by cases h; rfl) (fun  w hS => ?_) rfl rfl rfl rfl rfl rfl
    obtain ⟨x493, h494, hF⟩ := bnd hF
    refine hK _ [(16, .pointer (some (ea A0 ((IntKind.i64.wrap (x464 + 1)).toNat * 5))))] _ rfl ?_
    refine dEff [2, 3, 4, 16] [17] (by kernel_rfl) ⟨pu rfl rfl [(0, .slice A0 n0 c0)] (fun ac hA => y_move hA rfl rfl) rfl rfl, pu rfl rfl [(13, .int .i64 x464)] (fun ac hA => y_move hA rfl rfl) rfl rfl, pu rfl rfl [(64, .int .i64 x464)] (fun ac hA => r_add rfl (hA.ev rfl) (hA.ev rfl)) rfl rfl, pu rfl rfl [(63, .slice A0 n0 c0), (65, .int .i64 (IntKind.i64.wrap (x464 + 1)))] (fun ac hA => y_ia Tryz.underlying23 sz37 (hS.rd 0 rfl) h494 hA rfl rfl rfl) rfl rfl, trivial⟩ (by kernel_rfl) (by kernel_rfl) ⟨ef rfl [(74, .agg #[.int .u64 x490.f0, .int .i64 x490.f1, .int .i64 x490.f2, str x490.f3, .float .f64 x490.f4]), (76, .pointer (some (ea A0 ((IntKind.i64.wrap (x464 + 1)).toNat * 5))))] (fun ac hA K hK => ?_) rfl rfl, trivial⟩
    refine z_sto (z' := x490) (off := 0) (vs := [.int .u64 x490.f0, .int .i64 x490.f1, .int .i64 x490.f2, str x490.f3, .float .f64 x490.f4]) 0 sz37 hA hS rfl (at_some h494).2.2 (fun c h => by cases h; rfl) (fun  w hS => ?_) rfl rfl rfl rfl rfl rfl
    refine hK _ [] _ rfl ?_
    refine dEnd [] (by kernel_rfl) trivial ⟨by kernel_rfl, by kernel_rfl⟩ [(0, .slice A0 n0 c0), (4, .func (.func 34) #[] #[]), (10, .int .i64 x396), (13, .int .i64 x464)] rfl (fun ac hA => ?_)
    refine hKx486 _ _ ?_
    refine hK485 _ _ ?_
    refine wp_reg ?_
    refine x_m hA rfl fun ac hA => ?_
    refine x_v hA (r_add rfl (hA.ev rfl) (hA.ev rfl)) rfl fun ac hA => ?_
    refine x_m hA rfl fun ac hA => ?_
    refine wpList_nil ?_
    cases hF
    exact ⟨_, N480_ _ rfl, hA.sub _ rfl, hS⟩
   replace hF := iff' hb484 hF
   refine wp_exit ?_
   cases hF
   exact hx480_2 l463 (T480_ _ rfl) ac w (hA.sub _ rfl) hS
  obtain ⟨t559, hl559, hF⟩ := bnd hF
  have hx559_0 : ∀ (x559 : Int), (x559) = t559 → ∀ (ac : Act) (w : World), FR 220 [] ac [(0, .slice A0 n0 c0), (1, .int .i64 a1), (4, .func (.func 34) #[] #[]), (10, .int .i64 x559)] → SH r (own k37 37 A0 n0 c0 a0 :: L) w → Kx300 ac w := by
   intro x559 ht ac w hA hS
   subst ht
   replace hF : slices_symMergeCmpFunc_api_Event_x2_0 a0 a1 x559 = some y := hF
   unfold slices_symMergeCmpFunc_api_Event_x2_0 at hF
   exact hb1 x559 hF ac w (hA.sub _ rfl) hS
  refine wp_loop_fn hl559 (fun s ac w => FR 220 [] ac [(0, .slice A0 n0 c0), (1, .int .i64 a1), (4, .func (.func 34) #[] #[]), (10, .int .i64 s.1), (11, .int .i64 s.2)] ∧ SH r (own k37 37 A0 n0 c0 a0 :: L) w) ⟨hA.sub _ rfl, hS⟩ ?_
  intro N559 s559 o559 hF N559_ T559_ ac w hLab
  obtain ⟨x526, x527⟩ := s559
  replace hF : slices_symMergeCmpFunc_api_Event_l2 a0 a1 x526 x527 = some o559 := hF
  unfold slices_symMergeCmpFunc_api_Event_l2 at hF
  try dsimp only at hLab
  obtain ⟨hA, hS⟩ := hLab
  refine wp_seq_k fun K561 hK561 => ?_
  refine ws fun K562 hK562 => ?_
  refine x_m hA rfl fun ac hA => ?_
  refine x_m hA rfl fun ac hA => ?_
  refine x_v hA (r_ltI rfl (hA.ev rfl) (hA.ev rfl)) rfl fun ac hA => ?_
  refine wn (hK562 _ _ ?_)
  refine c_if hA rfl (fun hb563 => ?_) fun hb563 => ?_
  ·replace hF := ift hb563 hF
   refine wp_skip ?_
   refine hK561 _ _ ?_
   refine wp_block_k fun Kx564 hKx564 => ?_
   have hb3 : ∀ (x576 : Int) (x577 : Int), slices_symMergeCmpFunc_api_Event_b3 x576 x577 = some o559 → ∀ (ac : Act) (w : World), FR 220 [] ac [(0, .slice A0 n0 c0), (1, .int .i64 a1), (4, .func (.func 34) #[] #[]), (10, .int .i64 x576), (11, .int .i64 x577)] → SH r (own k37 37 A0 n0 c0 a0 :: L) w → Kx564 ac w := by
    intro x576 x577 hF ac w hA hS
    unfold slices_symMergeCmpFunc_api_Event_b3 at hF
    refine hKx564 _ _ ?_
    cases hF
    exact ⟨_, N559_ _ rfl, hA.sub _ rfl, hS⟩
   refine ws fun K578 hK578 => ?_
   refine x_m hA rfl fun ac hA => ?_
   refine x_m hA rfl fun ac hA => ?_
   refine x_v hA (r_add rfl (hA.ev rfl) (hA.ev rfl)) rfl fun ac hA => ?_
   refine x_v hA (r_convI Tryz.underlying3 Tryz.underlying101 rfl (hA.ev rfl)) rfl fun ac hA => ?_
   refine x_v hA (r_shr rfl (hA.ev rfl) (hA.ev rfl) (by decide)) rfl fun ac hA => ?_
   refine x_v hA (r_convI Tryz.underlying101 Tryz.underlying3 rfl (hA.ev rfl)) rfl fun ac hA => ?_
   refine x_m hA rfl fun ac hA => ?_
   refine wn (hK578 _ _ ?_)
   refine wp_seq_k fun K579 hK579 => ?_
   refine wp_draw [0, 0, 0, 6, 14, 0, 0, 96, 224, 511, 1023] [9] rfl hA hS (by kernel_rfl) (by kernel_rfl) (by kernel_rfl) (by kernel_rfl) fun w hS => ?_
   obtain ⟨x580, h581, hF⟩ := bnd hF
   obtain ⟨cs, hV, hc582⟩ := el (hS.rd 0 rfl) h581
   obtain rfl := hV
   obtain ⟨x583, h584, hF⟩ := bnd hF
   obtain ⟨cs, hV, hc585⟩ := el (hS.rd 0 rfl) h584
   obtain rfl := hV
   refine ⟨[(0, .func (.func 34) #[] #[]), (1, .slice A0 n0 c0), (2, .int .i64 (IntKind.i64.wrap (ishr .u64 (IntKind.u64.wrap (IntKind.i64.wrap (x526 + x527))) 1))), (3, .pointer (some (ea A0 ((IntKind.i64.wrap (ishr .u64 (IntKind.u64.wrap (IntKind.i64.wrap (x526 + x527))) 1)).toNat * 5)))), (4, .agg #[.int .u64 x580.f0, .int .i64 x580.f1, .int .i64 x580.f2, str x580.f3, .float .f64 x580.f4]), (5, .slice A0 n0 c0), (6, .int .i64 a1), (7, .pointer (some (ea A0 (a1.toNat * 5)))), (8, .agg #[.int .u64 x583.f0, .int .i64 x583.f1, .int .i64 x583.f2, str x583.f3, .float .f64 x583.f4])], ?_⟩
   refine dEff [0, 1, 2, 3, 4, 5, 6, 7, 8] [9] (by kernel_rfl) ⟨pu rfl rfl [(4, .func (.func 34) #[] #[])] (fun ac hA => y_move hA rfl rfl) rfl rfl, pu rfl rfl [(0, .slice A0 n0 c0)] (fun ac hA => y_move hA rfl rfl) rfl rfl, pu rfl rfl [(12, .int .i64 (IntKind.i64.wrap (ishr .u64 (IntKind.u64.wrap (IntKind.i64.wrap (x526 + x527))) 1)))] (fun ac hA => y_move hA rfl rfl) rfl rfl, pu rfl rfl [(41, .slice A0 n0 c0), (42, .int .i64 (IntKind.i64.wrap (ishr .u64 (IntKind.u64.wrap (IntKind.i64.wrap (x526 + x527))) 1)))] (fun ac hA => y_ia Tryz.underlying23 sz37 (hS.rd 0 rfl) h581 hA rfl rfl rfl) rfl rfl, pu rfl rfl [(43, .pointer (some (ea A0 ((IntKind.i64.wrap (ishr .u64 (IntKind.u64.wrap (IntKind.i64.wrap (x526 + x527))) 1)).toNat * 5))))] (fun ac hA => y_lda (cs := [.int .u64 x580.f0, .int .i64 x580.f1, .int .i64 x580.f2, str x580.f3, .float .f64 x580.f4]) Tryz.underlying37 sz37 (fun j u h => by rw [ea_add]; exact hc582 _ _ h) hA rfl rfl rfl) rfl rfl, pu rfl rfl [(0, .slice A0 n0 c0)] (fun ac hA => y_move hA rfl rfl) rfl rfl, pu rfl rfl [(1, .int .i64 a1)] (fun ac hA => y_move hA rfl rfl) rfl rfl, pu rfl rfl [(45, .slice A0 n0 c0), (46, .int .i64 a1)] (fun ac hA => y_ia Tryz.underlying23 sz37 (hS.rd 0 rfl) h584 hA rfl rfl rfl) rfl rfl, pu rfl rfl [(47, .pointer (some (ea A0 (a1.toNat * 5))))] (fun ac hA => y_lda (cs := [.int .u64 x583.f0, .int .i64 x583.f1, .int .i64 x583.f2, str x583.f3, .float .f64 x583.f4]) Tryz.underlying37 sz37 (fun j u h => by rw [ea_add]; exact hc585 _ _ h) hA rfl rfl rfl) rfl rfl, trivial⟩ (by kernel_rfl) (by kernel_rfl) ⟨ef rfl [(40, .func (.func 34) #[] #[]), (44, .agg #[.int .u64 x580.f0, .int .i64 x580.f1, .int .i64 x580.f2, str x580.f3, .float .f64 x580.f4]), (48, .agg #[.int .u64 x583.f0, .int .i64 x583.f1, .int .i64 x583.f2, str x583.f3, .float .f64 x583.f4])] (fun ac hA K hK => ?_) rfl rfl, trivial⟩
   obtain ⟨y586, h587, hF⟩ := bnd hF
   refine z_callv en34 hA (F_event_Sort_1 (L := own k37 37 A0 n0 c0 a0 :: L) x580 x583 h587 hS) (fun v w hR => ?_) rfl rfl rfl rfl
   obtain ⟨rfl, hS⟩ := hR
   refine hK _ [(10, .bool (decide (y586 < 0)))] _ rfl ?_
   refine dEnd [10] (by kernel_rfl) ⟨pu rfl rfl [(49, .int .i64 y586)] (fun ac hA => r_ltI rfl (hA.ev rfl) (hA.ev rfl)) rfl rfl, trivial⟩ ⟨by kernel_rfl, by kernel_rfl⟩ [(0, .slice A0 n0 c0), (1, .int .i64 a1), (4, .func (.func 34) #[] #[]), (10, .int .i64 x526), (11, .int .i64 x527), (12, .int .i64 (IntKind.i64.wrap (ishr .u64 (IntKind.u64.wrap (IntKind.i64.wrap (x526 + x527))) 1))), (50, .bool (decide (y586 < 0)))] rfl (fun ac hA => ?_)
   refine hK579 _ _ ?_
   refine c_if hA rfl (fun hb588 => ?_) fun hb588 => ?_
   ·replace hF := ift hb588 hF
    refine wp_reg ?_
    refine x_m hA rfl fun ac hA => ?_
    refine x_v hA (r_add rfl (hA.ev rfl) (hA.ev rfl)) rfl fun ac hA => ?_
    refine x_m hA rfl fun ac hA => ?_
    refine wpList_nil ?_
    exact hb3 (IntKind.i64.wrap ((IntKind.i64.wrap (ishr .u64 (IntKind.u64.wrap (IntKind.i64.wrap (x526 + x527))) 1)) + 1)) x527 hF ac w (hA.sub _ rfl) hS
   replace hF := iff' hb588 hF
   refine wp_reg ?_
   refine x_m hA rfl fun ac hA => ?_
   refine x_m hA rfl fun ac hA => ?_
   refine wpList_nil ?_
   exact hb3 x526 (IntKind.i64.wrap (ishr .u64 (IntKind.u64.wrap (IntKind.i64.wrap (x526 + x527))) 1)) hF ac w (hA.sub _ rfl) hS
  replace hF := iff' hb563 hF
  refine wp_exit ?_
  cases hF
  exact hx559_0 x526 (T559_ _ rfl) ac w (hA.sub _ rfl) hS
 replace hF := iff' hb103 hF
 refine wp_skip ?_
 refine hK101 _ _ ?_
 refine wp_seq_k fun K589 hK589 => ?_
 refine ws fun K590 hK590 => ?_
 refine x_m hA rfl fun ac hA => ?_
 refine x_m hA rfl fun ac hA => ?_
 refine x_v hA (r_sub rfl (hA.ev rfl) (hA.ev rfl)) rfl fun ac hA => ?_
 refine x_v hA (r_eqI rfl (hA.ev rfl) (hA.ev rfl)) rfl fun ac hA => ?_
 refine wn (hK590 _ _ ?_)
 refine c_if hA rfl (fun hb591 => ?_) fun hb591 => ?_
 ·replace hF := ift hb591 hF
  refine ws fun K592 hK592 => ?_
  refine x_m hA rfl fun ac hA => ?_
  refine x_m hA rfl fun ac hA => ?_
  refine wn (hK592 _ _ ?_)
  refine ws fun K593 hK593 => ?_
  refine x_m hA rfl fun ac hA => ?_
  refine x_m hA rfl fun ac hA => ?_
  refine wn (hK593 _ _ ?_)
  refine wp_seq_k fun K594 hK594 => ?_
  refine wp_block_k fun Kx788 hKx788 => ?_
  have hb4 : ∀ (x884 : Int), slices_symMergeCmpFunc_api_Event_b4 a0 a2 x884 = some y → ∀ (ac : Act) (w : World), FR 220 [] ac [(0, .slice A0 n0 c0), (2, .int .i64 a2), (4, .func (.func 34) #[] #[]), (14, .int .i64 x884)] → SH r (own k37 37 A0 n0 c0 a0 :: L) w → Kx788 ac w := by
   intro x884 hF ac w hA hS
   unfold slices_symMergeCmpFunc_api_Event_b4 at hF
   refine hKx788 _ _ ?_
   refine hK594 _ _ ?_
   refine wp_seq_k fun K885 hK885 => ?_
   refine ws fun K886 hK886 => ?_
   refine x_m hA rfl fun ac hA => ?_
   refine x_m hA rfl fun ac hA => ?_
   refine wn (hK886 _ _ ?_)
   refine wp_block_k fun Kx887 hKx887 => ?_
   have hb5 : ∀ (l935 : (List S37)), slices_symMergeCmpFunc_api_Event_b5 l935 = some y → ∀ (ac : Act) (w : World), FR 220 [] ac [(0, .slice A0 n0 c0), (4, .func (.func 34) #[] #[])] → SH r (own k37 37 A0 n0 c0 l935 :: L) w → Kx887 ac w := by
    intro l935 hF ac w hA hS
    unfold slices_symMergeCmpFunc_api_Event_b5 at hF
    refine hKx887 _ _ ?_
    refine hK885 _ _ ?_
    refine wp_ret ?_
    cases hF
    refine hQ _ _ ?_
    refine lv0 Tryz.results81 hA ?_
    exact ⟨rfl, hS⟩
   obtain ⟨t968, hl968, hF⟩ := bnd hF
   have hx968_6 : ∀ (l968 : (List S37)), (l968) = t968 → ∀ (ac : Act) (w : World), FR 220 [] ac [(0, .slice A0 n0 c0), (4, .func (.func 34) #[] #[])] → SH r (own k37 37 A0 n0 c0 l968 :: L) w → Kx887 ac w := by
    intro l968 ht ac w hA hS
    subst ht
    replace hF : slices_symMergeCmpFunc_api_Event_x3_6 l968 = some y := hF
    unfold slices_symMergeCmpFunc_api_Event_x3_6 at hF
    exact hb5 l968 hF ac w (hA.sub _ rfl) hS
   refine wp_loop_fn hl968 (fun s ac w => FR 220 [] ac [(0, .slice A0 n0 c0), (4, .func (.func 34) #[] #[]), (14, .int .i64 x884), (17, .int .i64 s.2)] ∧ SH r (own k37 37 A0 n0 c0 s.1 :: L) w) ⟨hA.sub _ rfl, hS⟩ ?_
   intro N968 s968 o968 hF N968_ T968_ ac w hLab
   obtain ⟨l951, x952⟩ := s968
   replace hF : slices_symMergeCmpFunc_api_Event_l3 x884 l951 x952 = some o968 := hF
   unfold slices_symMergeCmpFunc_api_Event_l3 at hF
   try dsimp only at hLab
   obtain ⟨hA, hS⟩ := hLab
   refine wp_seq_k fun K970 hK970 => ?_
   refine ws fun K971 hK971 => ?_
   refine x_m hA rfl fun ac hA => ?_
   refine x_m hA rfl fun ac hA => ?_
   refine x_v hA (r_gtI rfl (hA.ev rfl) (hA.ev rfl)) rfl fun ac hA => ?_
   refine wn (hK971 _ _ ?_)
   refine c_if hA rfl (fun hb972 => ?_) fun hb972 => ?_
   ·replace hF := ift hb972 hF
    refine wp_skip ?_
    refine hK970 _ _ ?_
    refine wp_seq_k fun K973 hK973 => ?_
    refine wp_block_k fun Kx974 hKx974 => ?_
    refine wp_draw [0, 0, 0, 0, 8, 0, 0, 64, 224, 480, 0, 0, 3072, 7168, 16355, 32739, 65535, 131071] [15, 17] rfl hA hS (by kernel_rfl) (by kernel_rfl) (by kernel_rfl) (by kernel_rfl) fun w hS => ?_
    obtain ⟨x975, h976, hF⟩ := bnd hF
    obtain ⟨cs, hV, hc977⟩ := el (hS.rd 0 rfl) h976
    obtain rfl := hV
    obtain ⟨x978, h979, hF⟩ := bnd hF
    obtain ⟨cs, hV, hc980⟩ := el (hS.rd 0 rfl) h979
    obtain rfl := hV
    refine ⟨[(0, .slice A0 n0 c0), (1, .int .i64 x952), (2, .slice A0 n0 c0), (3, .int .i64 x952), (4, .int .i64 (IntKind.i64.wrap (x952 - 1))), (5, .slice A0 n0 c0), (6, .int .i64 x952), (7, .int .i64 (IntKind.i64.wrap (x952 - 1))), (8, .pointer (some (ea A0 ((IntKind.i64.wrap (x952 - 1)).toNat * 5)))), (9, .agg #[.int .u64 x975.f0, .int .i64 x975.f1, .int .i64 x975.f2, str x975.f3, .float .f64 x975.f4]), (10, .slice A0 n0 c0), (11, .int .i64 x952), (12, .pointer (some (ea A0 (x952.toNat * 5)))), (13, .agg #[.int .u64 x978.f0, .int .i64 x978.f1, .int .i64 x978.f2, str x978.f3, .float .f64 x978.f4]), (14, .pointer (some (ea A0 (x952.toNat * 5))))], ?_⟩
    refine dEff [0, 1, 2, 3, 4, 5, 6, 7, 8, 9, 10, 11, 12, 13, 14] [15] (by kernel_rfl) ⟨pu rfl rfl [(0, .slice A0 n0 c0)] (fun ac hA => y_move hA rfl rfl) rfl rfl, pu rfl rfl [(17, .int .i64 x952)] (fun ac hA => y_move hA rfl rfl) rfl rfl, pu rfl rfl [(0, .slice A0 n0 c0)] (fun ac hA => y_move hA rfl rfl) rfl rfl, pu rfl rfl [(17, .int .i64 x952)] (fun ac hA => y_move hA rfl rfl) rfl rfl, pu rfl rfl [(116, .int .i64 x952)] (fun ac hA => r_sub rfl (hA.ev rfl) (hA.ev rfl)) rfl rfl, pu rfl rfl [(0, .slice A0 n0 c0)] (fun ac hA => y_move hA rfl rfl) rfl rfl, pu rfl rfl [(17, .int .i64 x952)] (fun ac hA => y_move hA rfl rfl) rfl rfl, pu rfl rfl [(119, .int .i64 x952)] (fun ac hA => r_sub rfl (hA.ev rfl) (hA.ev rfl)) rfl rfl, pu rfl rfl [(118, .slice A0 n0 c0), (120, .int .i64 (IntKind.i64.wrap (x952 - 1)))] (fun ac hA => y_ia Tryz.underlying23 sz37 (hS.rd 0 rfl) h976 hA rfl rfl rfl) rfl rfl, pu rfl rfl [(121, .pointer (some (ea A0 ((IntKind.i64.wrap (x952 - 1)).toNat * 5))))] (fun ac hA => y_lda (cs := [.int .u64 x975.f0, .int .i64 x975.f1, .int .i64 x975.f2, str x975.f3, .float .f64 x975.f4]) Tryz.underlying37 sz37 (fun j u h => by rw [ea_add]; exact hc977 _ _ h) hA rfl rfl rfl) rfl rfl, pu rfl rfl [(0, .slice A0 n0 c0)] (fun ac hA => y_move hA rfl rfl) rfl rfl, pu rfl rfl [(17, .int .i64 x952)] (fun ac hA => y_move hA rfl rfl) rfl rfl, pu rfl rfl [(123, .slice A0 n0 c0), (124, .int .i64 x952)] (fun ac hA => y_ia Tryz.underlying23 sz37 (hS.rd 0 rfl) h979 hA rfl rfl rfl) rfl rfl, pu rfl rfl [(125, .pointer (some (ea A0 (x952.toNat * 5))))] (fun ac hA => y_lda (cs := [.int .u64 x978.f0, .int .i64 x978.f1, .int .i64 x978.f2, str x978.f3, .float .f64 x978.f4]) Tryz.underlying37 sz37 (fun j u h => by rw [ea_add]; exact hc980 _ _ h) hA rfl rfl rfl) rfl rfl, pu rfl rfl [(113, .slice A0 n0 c0), (114, .int .i64 x952)] (fun ac hA => y_ia Tryz.underlying23 sz37 (hS.rd 0 rfl) h979 hA rfl rfl rfl) rfl rfl, trivial⟩ (by kernel_rfl) (by kernel_rfl) ⟨ef rfl [(122, .agg #[.int .u64 x975.f0, .int .i64 x975.f1, .int .i64 x975.f2, str x975.f3, .float .f64 x975.f4]), (127, .pointer (some (ea A0 (x952.toNat * 5))))] (fun ac hA K hK => ?_) rfl rfl, trivial⟩
    refine z_sto (z' := x975) (off := 0) (vs := [.int .u64 x975.f0, .int .i64 x975.f1, .int .i64 x975.f2, str x975.f3, .float .f64 x975.f4]) 0 sz37 hA hS rfl (at_some h979).2.2 (fun c h => by cases h; rfl) (fun  w hS => ?_) rfl rfl rfl rfl rfl rfl
    obtain ⟨x981, h982, hF⟩ := bnd hF
    refine hK _ [(16, .pointer (some (ea A0 ((IntKind.i64.wrap (x952 - 1)).toNat * 5))))] _ rfl ?_
    refine dEff [2, 3, 4, 16] [17] (by kernel_rfl) ⟨pu rfl rfl [(0, .slice A0 n0 c0)] (fun ac hA => y_move hA rfl rfl) rfl rfl, pu rfl rfl [(17, .int .i64 x952)] (fun ac hA => y_move hA rfl rfl) rfl rfl, pu rfl rfl [(116, .int .i64 x952)] (fun ac hA => r_sub rfl (hA.ev rfl) (hA.ev rfl)) rfl rfl, pu rfl rfl [(115, .slice A0 n0 c0), (117, .int .i64 (IntKind.i64.wrap (x952 - 1)))] (fun ac hA => y_ia Tryz.underlying23 sz37 (hS.rd 0 rfl) h982 hA rfl rfl rfl) rfl rfl, trivial⟩ (by kernel_rfl) (by kernel_rfl) ⟨ef rfl [(126, .agg #[.int .u64 x978.f0, .int .i64 x978.f1, .int .i64 x978.f2, str x978.f3, .float .f64 x978.f4]), (128, .pointer (some (ea A0 ((IntKind.i64.wrap (x952 - 1)).toNat * 5))))] (fun ac hA K hK => ?_) rfl rfl, trivial⟩
    refine z_sto (z' := x978) (off := 0) (vs := [.int .u64 x978.f0, .int .i64 x978.f1, .int .i64 x978.f2, str x978.f3, .float .f64 x978.f4]) 0 sz37 hA hS rfl (at_some h982).2.2 (fun c h => by cases h; rfl) (fun  w hS => ?_) rfl rfl rfl rfl rfl rfl
    refine hK _ [] _ rfl ?_
    refine dEnd [] (by kernel_rfl) trivial ⟨by kernel_rfl, by kernel_rfl⟩ [(0, .slice A0 n0 c0), (4, .func (.func 34) #[] #[]), (14, .int .i64 x884), (17, .int .i64 x952)] rfl (fun ac hA => ?_)
    refine hKx974 _ _ ?_
    refine hK973 _ _ ?_
    refine wp_reg ?_
    refine x_m hA rfl fun ac hA => ?_
    refine x_v hA (r_sub rfl (hA.ev rfl) (hA.ev rfl)) rfl fun ac hA => ?_
    refine x_m hA rfl fun ac hA => ?_
    refine wpList_nil ?_
    cases hF
    exact ⟨_, N968_ _ rfl, hA.sub _ rfl, hS⟩
   replace hF := iff' hb972 hF
   refine wp_exit ?_
   cases hF
   exact hx968_6 l951 (T968_ _ rfl) ac w (hA.sub _ rfl) hS
  obtain ⟨t1047, hl1047, hF⟩ := bnd hF
  have hx1047_4 : ∀ (x1047 : Int), (x1047) = t1047 → ∀ (ac : Act) (w : World), FR 220 [] ac [(0, .slice A0 n0 c0), (2, .int .i64 a2), (4, .func (.func 34) #[] #[]), (14, .int .i64 x1047)] → SH r (own k37 37 A0 n0 c0 a0 :: L) w → Kx788 ac w := by
   intro x1047 ht ac w hA hS
   subst ht
   replace hF : slices_symMergeCmpFunc_api_Event_x4_4 a0 a2 x1047 = some y := hF
   unfold slices_symMergeCmpFunc_api_Event_x4_4 at hF
   exact hb4 x1047 hF ac w (hA.sub _ rfl) hS
  refine wp_loop_fn hl1047 (fun s ac w => FR 220 [] ac [(0, .slice A0 n0 c0), (2, .int .i64 a2), (4, .func (.func 34) #[] #[]), (14, .int .i64 s.1), (15, .int .i64 s.2)] ∧ SH r (own k37 37 A0 n0 c0 a0 :: L) w) ⟨hA.sub _ rfl, hS⟩ ?_
  intro N1047 s1047 o1047 hF N1047_ T1047_ ac w hLab
  obtain ⟨x1014, x1015⟩ := s1047
  replace hF : slices_symMergeCmpFunc_api_Event_l4 a0 a2 x1014 x1015 = some o1047 := hF
  unfold slices_symMergeCmpFunc_api_Event_l4 at hF
  try dsimp only at hLab
  obtain ⟨hA, hS⟩ := hLab
  refine wp_seq_k fun K1049 hK1049 => ?_
  refine ws fun K1050 hK1050 => ?_
  refine x_m hA rfl fun ac hA => ?_
  refine x_m hA rfl fun ac hA => ?_
  refine x_v hA (r_ltI rfl (hA.ev rfl) (hA.ev rfl)) rfl fun ac hA => ?_
  refine wn (hK1050 _ _ ?_)
  refine c_if hA rfl (fun hb1051 => ?_) fun hb1051 => ?_
  ·replace hF := ift hb1051 hF
   refine wp_skip ?_
   refine hK1049 _ _ ?_
   refine wp_block_k fun Kx1052 hKx1052 => ?_
   have hb6 : ∀ (x1064 : Int) (x1065 : Int), slices_symMergeCmpFunc_api_Event_b6 x1064 x1065 = some o1047 → ∀ (ac : Act) (w : World), FR 220 [] ac [(0, .slice A0 n0 c0), (2, .int .i64 a2), (4, .func (.func 34) #[] #[]), (14, .int .i64 x1064), (15, .int .i64 x1065)] → SH r (own k37 37 A0 n0 c0 a0 :: L) w → Kx1052 ac w := by
    intro x1064 x1065 hF ac w hA hS
    unfold slices_symMergeCmpFunc_api_Event_b6 at hF
    refine hKx1052 _ _ ?_
    cases hF
    exact ⟨_, N1047_ _ rfl, hA.sub _ rfl, hS⟩
   refine ws fun K1066 hK1066 => ?_
   refine x_m hA rfl fun ac hA => ?_
   refine x_m hA rfl fun ac hA => ?_
   refine x_v hA (r_add rfl (hA.ev rfl) (hA.ev rfl)) rfl fun ac hA => ?_
   refine x_v hA (r_convI Tryz.underlying3 Tryz.underlying101 rfl (hA.ev rfl)) rfl fun ac hA => ?_
   refine x_v hA (r_shr rfl (hA.ev rfl) (hA.ev rfl) (by decide)) rfl fun ac hA => ?_
   refine x_v hA (r_convI Tryz.underlying101 Tryz.underlying3 rfl (hA.ev rfl)) rfl fun ac hA => ?_
   refine x_m hA rfl fun ac hA => ?_
   refine wn (hK1066 _ _ ?_)
   refine wp_seq_k fun K1067 hK1067 => ?_
   refine wp_draw [0, 0, 0, 6, 14, 0, 0, 96, 224, 511, 1023, 2047] [9] rfl hA hS (by kernel_rfl) (by kernel_rfl) (by kernel_rfl) (by kernel_rfl) fun w hS => ?_
   obtain ⟨x1068, h1069, hF⟩ := bnd hF
   obtain ⟨cs, hV, hc1070⟩ := el (hS.rd 0 rfl) h1069
   obtain rfl := hV
   obtain ⟨x1071, h1072, hF⟩ := bnd hF
   obtain ⟨cs, hV, hc1073⟩ := el (hS.rd 0 rfl) h1072
   obtain rfl := hV
   refine ⟨[(0, .func (.func 34) #[] #[]), (1, .slice A0 n0 c0), (2, .int .i64 a2), (3, .pointer (some (ea A0 (a2.toNat * 5)))), (4, .agg #[.int .u64 x1068.f0, .int .i64 x1068.f1, .int .i64 x1068.f2, str x1068.f3, .float .f64 x1068.f4]), (5, .slice A0 n0 c0), (6, .int .i64 (IntKind.i64.wrap (ishr .u64 (IntKind.u64.wrap (IntKind.i64.wrap (x1014 + x1015))) 1))), (7, .pointer (some (ea A0 ((IntKind.i64.wrap (ishr .u64 (IntKind.u64.wrap (IntKind.i64.wrap (x1014 + x1015))) 1)).toNat * 5)))), (8, .agg #[.int .u64 x1071.f0, .int .i64 x1071.f1, .int .i64 x1071.f2, str x1071.f3, .float .f64 x1071.f4])], ?_⟩
   refine dEff [0, 1, 2, 3, 4, 5, 6, 7, 8] [9] (by kernel_rfl) ⟨pu rfl rfl [(4, .func (.func 34) #[] #[])] (fun ac hA => y_move hA rfl rfl) rfl rfl, pu rfl rfl [(0, .slice A0 n0 c0)] (fun ac hA => y_move hA rfl rfl) rfl rfl, pu rfl rfl [(2, .int .i64 a2)] (fun ac hA => y_move hA rfl rfl) rfl rfl, pu rfl rfl [(93, .slice A0 n0 c0), (94, .int .i64 a2)] (fun ac hA => y_ia Tryz.underlying23 sz37 (hS.rd 0 rfl) h1069 hA rfl rfl rfl) rfl rfl, pu rfl rfl [(95, .pointer (some (ea A0 (a2.toNat * 5))))] (fun ac hA => y_lda (cs := [.int .u64 x1068.f0, .int .i64 x1068.f1, .int .i64 x1068.f2, str x1068.f3, .float .f64 x1068.f4]) Tryz.underlying37 sz37 (fun j u h => by rw [ea_add]; exact hc1070 _ _ h) hA rfl rfl rfl) rfl rfl, pu rfl rfl [(0, .slice A0 n0 c0)] (fun ac hA => y_move hA rfl rfl) rfl rfl, pu rfl rfl [(16, .int .i64 (IntKind.i64.wrap (ishr .u64 (IntKind.u64.wrap (IntKind.i64.wrap (x1014 + x1015))) 1)))] (fun ac hA => y_move hA rfl rfl) rfl rfl, pu rfl rfl [(97, .slice A0 n0 c0), (98, .int .i64 (IntKind.i64.wrap (ishr .u64 (IntKind.u64.wrap (IntKind.i64.wrap (x1014 + x1015))) 1)))] (fun ac hA => y_ia Tryz.underlying23 sz37 (hS.rd 0 rfl) h1072 hA rfl rfl rfl) rfl rfl, pu rfl rfl [(99, .pointer (some (ea A0 ((IntKind.i64.wrap (ishr .u64 (IntKind.u64.wrap (IntKind.i64.wrap (x1014 + x1015))) 1)).toNat * 5))))] (fun ac hA => y_lda (cs := [.int .u64 x1071.f0, .int .i64 x1071.f1, .int .i64 x1071.f2, str x1071.f3, .float .f64 x1071.f4]) Tryz.underlying37 sz37 (fun j u h => by rw [ea_add]; exact hc1073 _ _ h) hA rfl rfl rfl) rfl rfl, trivial⟩ (by kernel_rfl) (by kernel_rfl) ⟨ef rfl [(92, .func (.func 34) #[] #[]), (96, .agg #[.int .u64 x1068.f0, .int .i64 x1068.f1, .int .i64 x1068.f2, str x1068.f3, .float .f64 x1068.f4]), (100, .agg #[.int .u64 x1071.f0, .int .i64 x1071.f1, .int .i64 x1071.f2, str x1071.f3, .float .f64 x1071.f4])] (fun ac hA K hK => ?_) rfl rfl, trivial⟩
   obtain ⟨y1074, h1075, hF⟩ := bnd hF
   refine z_callv en34 hA (F_event_Sort_1 (L := own k37 37 A0 n0 c0 a0 :: L) x1068 x1071 h1075 hS) (fun v w hR => ?_) rfl rfl rfl rfl
   obtain ⟨rfl, hS⟩ := hR
   refine hK _ [(10, .bool (decide (y1074 < 0))), (11, .bool (!(decide (y1074 < 0))))] _ rfl ?_
   refine dEnd [10, 11] (by kernel_rfl) ⟨pu rfl rfl [(101, .int .i64 y1074)] (fun ac hA => r_ltI rfl (hA.ev rfl) (hA.ev rfl)) rfl rfl, pu rfl rfl [(102, .bool (decide (y1074 < 0)))] (fun ac hA => r_not rfl (hA.ev rfl)) rfl rfl, trivial⟩ ⟨by kernel_rfl, by kernel_rfl⟩ [(0, .slice A0 n0 c0), (2, .int .i64 a2), (4, .func (.func 34) #[] #[]), (14, .int .i64 x1014), (15, .int .i64 x1015), (16, .int .i64 (IntKind.i64.wrap (ishr .u64 (IntKind.u64.wrap (IntKind.i64.wrap (x1014 + x1015))) 1))), (103, .bool (!(decide (y1074 < 0))))] rfl (fun ac hA => ?_)
   refine hK1067 _ _ ?_
   refine c_if hA rfl (fun hb1076 => ?_) fun hb1076 => ?_
   ·replace hF := ift hb1076 hF
    refine wp_reg ?_
    refine x_m hA rfl fun ac hA => ?_
    refine x_v hA (r_add rfl (hA.ev rfl) (hA.ev rfl)) rfl fun ac hA => ?_
    refine x_m hA rfl fun ac hA => ?_
    refine wpList_nil ?_
    exact hb6 (IntKind.i64.wrap ((IntKind.i64.wrap (ishr .u64 (IntKind.u64.wrap (IntKind.i64.wrap (x1014 + x1015))) 1)) + 1)) x1015 hF ac w (hA.sub _ rfl) hS
   replace hF := iff' hb1076 hF
   refine wp_reg ?_
   refine x_m hA rfl fun ac hA => ?_
   refine x_m hA rfl fun ac hA => ?_
   refine wpList_nil ?_
   exact hb6 x1014 (IntKind.i64.wrap (ishr .u64 (IntKind.u64.wrap (IntKind.i64.wrap (x1014 + x1015))) 1)) hF ac w (hA.sub _ rfl) hS
  replace hF := iff' hb1051 hF
  refine wp_exit ?_
  cases hF
  exact hx1047_4 x1014 (T1047_ _ rfl) ac w (hA.sub _ rfl) hS
 replace hF := iff' hb591 hF
 refine wp_skip ?_
 refine hK589 _ _ ?_
 refine ws fun K1077 hK1077 => ?_
 refine x_m hA rfl fun ac hA => ?_
 refine x_m hA rfl fun ac hA => ?_
 refine x_v hA (r_add rfl (hA.ev rfl) (hA.ev rfl)) rfl fun ac hA => ?_
 refine x_v hA (r_convI Tryz.underlying3 Tryz.underlying101 rfl (hA.ev rfl)) rfl fun ac hA => ?_
 refine x_v hA (r_shr rfl (hA.ev rfl) (hA.ev rfl) (by decide)) rfl fun ac hA => ?_
 refine x_v hA (r_convI Tryz.underlying101 Tryz.underlying3 rfl (hA.ev rfl)) rfl fun ac hA => ?_
 refine x_m hA rfl fun ac hA => ?_
 refine wn (hK1077 _ _ ?_)
 refine ws fun K1078 hK1078 => ?_
 refine x_m hA rfl fun ac hA => ?_
 refine x_m hA rfl fun ac hA => ?_
 refine x_v hA (r_add rfl (hA.ev rfl) (hA.ev rfl)) rfl fun ac hA => ?_
 refine x_m hA rfl fun ac hA => ?_
 refine wn (hK1078 _ _ ?_)
 refine ws fun K1079 hK1079 => ?_
 refine x_m hA rfl fun ac hA => ?_
 refine x_m hA rfl fun ac hA => ?_
 refine wn (hK1079 _ _ ?_)
 refine wp_seq_k fun K1080 hK1080 => ?_
 have hj1 : ∀ (x1085 : Int) (x1086 : Int), slices_symMergeCmpFunc_api_Event_j1 rec_ a0 a1 a2 a3 x1085 x1086 = some y → ∀ (ac : Act) (w : World), FR 220 [] ac [(0, .slice A0 n0 c0), (1, .int .i64 a1), (2, .int .i64 a2), (3, .int .i64 a3), (4, .func (.func 34) #[] #[]), (18, .int .i64 (IntKind.i64.wrap (ishr .u64 (IntKind.u64.wrap (IntKind.i64.wrap (a1 + a3))) 1))), (19, .int .i64 (IntKind.i64.wrap ((IntKind.i64.wrap (ishr .u64 (IntKind.u64.wrap (IntKind.i64.wrap (a1 + a3))) 1)) + a2))), (20, .int .i64 x1085), (21, .int .i64 x1086)] → SH r (own k37 37 A0 n0 c0 a0 :: L) w → K1080 ac w := by
  intro x1085 x1086 hF ac w hA hS
  unfold slices_symMergeCmpFunc_api_Event_j1 at hF
  refine hK1080 _ _ ?_
  refine ws fun K1087 hK1087 => ?_
  refine x_m hA rfl fun ac hA => ?_
  refine x_v hA (r_sub rfl (hA.ev rfl) (hA.ev rfl)) rfl fun ac hA => ?_
  refine x_m hA rfl fun ac hA => ?_
  refine wn (hK1087 _ _ ?_)
  refine wp_seq_k fun K1088 hK1088 => ?_
  refine wp_block_k fun Kx1282 hKx1282 => ?_
  have hb7 : ∀ (x1378 : Int), slices_symMergeCmpFunc_api_Event_b7 rec_ a0 a1 a2 a3 x1378 = some y → ∀ (ac : Act) (w : World), FR 220 [] ac [(0, .slice A0 n0 c0), (1, .int .i64 a1), (2, .int .i64 a2), (3, .int .i64 a3), (4, .func (.func 34) #[] #[]), (18, .int .i64 (IntKind.i64.wrap (ishr .u64 (IntKind.u64.wrap (IntKind.i64.wrap (a1 + a3))) 1))), (19, .int .i64 (IntKind.i64.wrap ((IntKind.i64.wrap (ishr .u64 (IntKind.u64.wrap (IntKind.i64.wrap (a1 + a3))) 1)) + a2))), (20, .int .i64 x1378)] → SH r (own k37 37 A0 n0 c0 a0 :: L) w → Kx1282 ac w := by
   intro x1378 hF ac w hA hS
   unfold slices_symMergeCmpFunc_api_Event_b7 at hF
   refine hKx1282 _ _ ?_
   refine hK1088 _ _ ?_
   refine ws fun K1379 hK1379 => ?_
   refine x_m hA rfl fun ac hA => ?_
   refine x_m hA rfl fun ac hA => ?_
   refine x_v hA (r_sub rfl (hA.ev rfl) (hA.ev rfl)) rfl fun ac hA => ?_
   refine x_m hA rfl fun ac hA => ?_
   refine wn (hK1379 _ _ ?_)
   refine wp_seq_k fun K1380 hK1380 => ?_
   have hj2 : ∀ (l1389 : (List S37)), slices_symMergeCmpFunc_api_Event_j2 rec_ a1 a2 a3 x1378 l1389 = some y → ∀ (ac : Act) (w : World), FR 220 [] ac [(0, .slice A0 n0 c0), (1, .int .i64 a1), (3, .int .i64 a3), (4, .func (.func 34) #[] #[]), (18, .int .i64 (IntKind.i64.wrap (ishr .u64 (IntKind.u64.wrap (IntKind.i64.wrap (a1 + a3))) 1))), (20, .int .i64 x1378), (24, .int .i64 (IntKind.i64.wrap ((IntKind.i64.wrap ((IntKind.i64.wrap (ishr .u64 (IntKind.u64.wrap (IntKind.i64.wrap (a1 + a3))) 1)) + a2)) - x1378)))] → SH r (own k37 37 A0 n0 c0 l1389 :: L) w → K1380 ac w := by
    intro l1389 hF ac w hA hS
    unfold slices_symMergeCmpFunc_api_Event_j2 at hF
    refine hK1380 _ _ ?_
    refine wp_seq_k fun K1390 hK1390 => ?_
    have hj3 : ∀ (l1399 : (List S37)), slices_symMergeCmpFunc_api_Event_j3 rec_ a1 a2 a3 x1378 l1399 = some y → ∀ (ac : Act) (w : World), FR 220 [] ac [(0, .slice A0 n0 c0), (3, .int .i64 a3), (4, .func (.func 34) #[] #[]), (18, .int .i64 (IntKind.i64.wrap (ishr .u64 (IntKind.u64.wrap (IntKind.i64.wrap (a1 + a3))) 1))), (24, .int .i64 (IntKind.i64.wrap ((IntKind.i64.wrap ((IntKind.i64.wrap (ishr .u64 (IntKind.u64.wrap (IntKind.i64.wrap (a1 + a3))) 1)) + a2)) - x1378)))] → SH r (own k37 37 A0 n0 c0 l1399 :: L) w → K1390 ac w := by
     intro l1399 hF ac w hA hS
     unfold slices_symMergeCmpFunc_api_Event_j3 at hF
     refine hK1390 _ _ ?_
     refine wp_seq_k fun K1400 hK1400 => ?_
     have hj4 : ∀ (b1402 : Bool), slices_symMergeCmpFunc_api_Event_j4 rec_ a1 a2 a3 x1378 l1399 b1402 = some y → ∀ (ac : Act) (w : World), FR 220 [] ac [(0, .slice A0 n0 c0), (3, .int .i64 a3), (4, .func (.func 34) #[] #[]), (18, .int .i64 (IntKind.i64.wrap (ishr .u64 (IntKind.u64.wrap (IntKind.i64.wrap (a1 + a3))) 1))), (24, .int .i64 (IntKind.i64.wrap ((IntKind.i64.wrap ((IntKind.i64.wrap (ishr .u64 (IntKind.u64.wrap (IntKind.i64.wrap (a1 + a3))) 1)) + a2)) - x1378))), (213, .bool b1402)] → SH r (own k37 37 A0 n0 c0 l1399 :: L) w → K1400 ac w := by
      intro b1402 hF ac w hA hS
      unfold slices_symMergeCmpFunc_api_Event_j4 at hF
      refine hK1400 _ _ ?_
      refine c_if hA rfl (fun hb1403 => ?_) fun hb1403 => ?_
      ·replace hF := ift hb1403 hF
       refine wp_reg ?_
       refine x_m hA rfl fun ac hA => ?_
       refine x_m hA rfl fun ac hA => ?_
       refine x_m hA rfl fun ac hA => ?_
       refine x_m hA rfl fun ac hA => ?_
       refine x_m hA rfl fun ac hA => ?_
       obtain ⟨y1404, h1405, hF⟩ := bnd hF
       refine x_call en81 hA (hrec (L := L) l1399 (IntKind.i64.wrap (ishr .u64 (IntKind.u64.wrap (IntKind.i64.wrap (a1 + a3))) 1)) (IntKind.i64.wrap ((IntKind.i64.wrap ((IntKind.i64.wrap (ishr .u64 (IntKind.u64.wrap (IntKind.i64.wrap (a1 + a3))) 1)) + a2)) - x1378)) a3 A0 n0 c0 h1405 hS) (fun v ac w hR hA => ?_) rfl rfl rfl rfl rfl
       obtain ⟨rfl, hS⟩ := hR
       refine wpList_nil ?_
       cases hF
       refine hQn _ _ ?_
       refine lv0n Tryz.results81 hA ?_
       exact ⟨rfl, hS⟩
      replace hF := iff' hb1403 hF
      refine wp_skip ?_
      cases hF
      refine hQn _ _ ?_
      refine lv0n Tryz.results81 hA ?_
      exact ⟨rfl, hS⟩
     refine wp_reg ?_
     refine x_m hA rfl fun ac hA => ?_
     refine x_m hA rfl fun ac hA => ?_
     refine x_v hA (r_ltI rfl (hA.ev rfl) (hA.ev rfl)) rfl fun ac hA => ?_
     refine x_m hA rfl fun ac hA => ?_
     refine bcase (b := decide (IntKind.i64.wrap (ishr .u64 (IntKind.u64.wrap (IntKind.i64.wrap (a1 + a3))) 1) < IntKind.i64.wrap ((IntKind.i64.wrap ((IntKind.i64.wrap (ishr .u64 (IntKind.u64.wrap (IntKind.i64.wrap (a1 + a3))) 1)) + a2)) - x1378))) (fun hb1406 => ?_) fun hb1406 => ?_
     ·replace hF := ift hb1406 hF
      refine x_on hb1406 hA ?_ rfl rfl rfl
      refine x_m hA rfl fun ac hA => ?_
      refine x_on hb1406 hA ?_ rfl rfl rfl
      refine x_m hA rfl fun ac hA => ?_
      refine x_on hb1406 hA ?_ rfl rfl rfl
      refine x_v hA (r_ltI rfl (hA.ev rfl) (hA.ev rfl)) rfl fun ac hA => ?_
      refine x_pickt hb1406 hA (fun ac hA => ?_) rfl rfl rfl rfl rfl rfl
      refine wpList_nil ?_
      exact hj4 (decide (IntKind.i64.wrap ((IntKind.i64.wrap ((IntKind.i64.wrap (ishr .u64 (IntKind.u64.wrap (IntKind.i64.wrap (a1 + a3))) 1)) + a2)) - x1378) < a3)) hF ac w (hA.sub _ rfl) hS
     replace hF := iff' hb1406 hF
     refine x_off hb1406 hA (fun ac hA => ?_) rfl rfl rfl rfl rfl
     refine x_off hb1406 hA (fun ac hA => ?_) rfl rfl rfl rfl rfl
     refine x_off hb1406 hA (fun ac hA => ?_) rfl rfl rfl rfl rfl
     refine x_pickf hb1406 hA (fun ac hA => ?_) rfl rfl rfl rfl rfl rfl
     refine wpList_nil ?_
     exact hj4 false hF ac w (hA.sub _ rfl) hS
    refine wp_seq_k fun K1407 hK1407 => ?_
    have hj5 : ∀ (b1409 : Bool), slices_symMergeCmpFunc_api_Event_j5 rec_ a1 a2 a3 x1378 l1389 b1409 = some y → ∀ (ac : Act) (w : World), FR 220 [] ac [(0, .slice A0 n0 c0), (1, .int .i64 a1), (3, .int .i64 a3), (4, .func (.func 34) #[] #[]), (18, .int .i64 (IntKind.i64.wrap (ishr .u64 (IntKind.u64.wrap (IntKind.i64.wrap (a1 + a3))) 1))), (20, .int .i64 x1378), (24, .int .i64 (IntKind.i64.wrap ((IntKind.i64.wrap ((IntKind.i64.wrap (ishr .u64 (IntKind.u64.wrap (IntKind.i64.wrap (a1 + a3))) 1)) + a2)) - x1378))), (199, .bool b1409)] → SH r (own k37 37 A0 n0 c0 l1389 :: L) w → K1407 ac w := by
     intro b1409 hF ac w hA hS
     unfold slices_symMergeCmpFunc_api_Event_j5 at hF
     refine hK1407 _ _ ?_
     refine c_if hA rfl (fun hb1410 => ?_) fun hb1410 => ?_
     ·replace hF := ift hb1410 hF
      refine wp_reg ?_
      refine x_m hA rfl fun ac hA => ?_
      refine x_m hA rfl fun ac hA => ?_
      refine x_m hA rfl fun ac hA => ?_
      refine x_m hA rfl fun ac hA => ?_
      refine x_m hA rfl fun ac hA => ?_
      obtain ⟨y1411, h1412, hF⟩ := bnd hF
      refine x_call en81 hA (hrec (L := L) l1389 a1 x1378 (IntKind.i64.wrap (ishr .u64 (IntKind.u64.wrap (IntKind.i64.wrap (a1 + a3))) 1)) A0 n0 c0 h1412 hS) (fun v ac w hR hA => ?_) rfl rfl rfl rfl rfl
      obtain ⟨rfl, hS⟩ := hR
      refine wpList_nil ?_
      exact hj3 y1411 hF ac w (hA.sub _ rfl) hS
     replace hF := iff' hb1410 hF
     refine wp_skip ?_
     exact hj3 l1389 hF ac w (hA.sub _ rfl) hS
    refine wp_reg ?_
    refine x_m hA rfl fun ac hA => ?_
    refine x_m hA rfl fun ac hA => ?_
    refine x_v hA (r_ltI rfl (hA.ev rfl) (hA.ev rfl)) rfl fun ac hA => ?_
    refine x_m hA rfl fun ac hA => ?_
    refine bcase (b := decide (a1 < x1378)) (fun hb1413 => ?_) fun hb1413 => ?_
    ·replace hF := ift hb1413 hF
     refine x_on hb1413 hA ?_ rfl rfl rfl
     refine x_m hA rfl fun ac hA => ?_
     refine x_on hb1413 hA ?_ rfl rfl rfl
     refine x_m hA rfl fun ac hA => ?_
     refine x_on hb1413 hA ?_ rfl rfl rfl
     refine x_v hA (r_ltI rfl (hA.ev rfl) (hA.ev rfl)) rfl fun ac hA => ?_
     refine x_pickt hb1413 hA (fun ac hA => ?_) rfl rfl rfl rfl rfl rfl
     refine wpList_nil ?_
     exact hj5 (decide (x1378 < IntKind.i64.wrap (ishr .u64 (IntKind.u64.wrap (IntKind.i64.wrap (a1 + a3))) 1))) hF ac w (hA.sub _ rfl) hS
    replace hF := iff' hb1413 hF
    refine x_off hb1413 hA (fun ac hA => ?_) rfl rfl rfl rfl rfl
    refine x_off hb1413 hA (fun ac hA => ?_) rfl rfl rfl rfl rfl
    refine x_off hb1413 hA (fun ac hA => ?_) rfl rfl rfl rfl rfl
    refine x_pickf hb1413 hA (fun ac hA => ?_) rfl rfl rfl rfl rfl rfl
    refine wpList_nil ?_
    exact hj5 false hF ac w (hA.sub _ rfl) hS
   refine wp_seq_k fun K1414 hK1414 => ?_
   have hj6 : ∀ (b1416 : Bool), slices_symMergeCmpFunc_api_Event_j6 rec_ a0 a1 a2 a3 x1378 b1416 = some y → ∀ (ac : Act) (w : World), FR 220 [] ac [(0, .slice A0 n0 c0), (1, .int .i64 a1), (2, .int .i64 a2), (3, .int .i64 a3), (4, .func (.func 34) #[] #[]), (18, .int .i64 (IntKind.i64.wrap (ishr .u64 (IntKind.u64.wrap (IntKind.i64.wrap (a1 + a3))) 1))), (20, .int .i64 x1378), (24, .int .i64 (IntKind.i64.wrap ((IntKind.i64.wrap ((IntKind.i64.wrap (ishr .u64 (IntKind.u64.wrap (IntKind.i64.wrap (a1 + a3))) 1)) + a2)) - x1378))), (185, .bool b1416)] → SH r (own k37 37 A0 n0 c0 a0 :: L) w → K1414 ac w := by
    intro b1416 hF ac w hA hS
    unfold slices_symMergeCmpFunc_api_Event_j6 at hF
    refine hK1414 _ _ ?_
    refine c_if hA rfl (fun hb1417 => ?_) fun hb1417 => ?_
    ·replace hF := ift hb1417 hF
     refine wp_reg ?_
     refine x_m hA rfl fun ac hA => ?_
     refine x_m hA rfl fun ac hA => ?_
     refine x_m hA rfl fun ac hA => ?_
     refine x_m hA rfl fun ac hA => ?_
     refine x_m hA rfl fun ac hA => ?_
     obtain ⟨y1418, h1419, hF⟩ := bnd hF
     refine x_call en89 hA (F_slices_rotateCmpFunc_api_Event (L := L) a0 x1378 a2 (IntKind.i64.wrap ((IntKind.i64.wrap ((IntKind.i64.wrap (ishr .u64 (IntKind.u64.wrap (IntKind.i64.wrap (a1 + a3))) 1)) + a2)) - x1378)) A0 n0 c0 h1419 hS) (fun v ac w hR hA => ?_) rfl rfl rfl rfl rfl
     obtain ⟨rfl, hS⟩ := hR
     refine wpList_nil ?_
     exact hj2 y1418 hF ac w (hA.sub _ rfl) hS
    replace hF := iff' hb1417 hF
    refine wp_skip ?_
    exact hj2 a0 hF ac w (hA.sub _ rfl) hS
   refine wp_reg ?_
   refine x_m hA rfl fun ac hA => ?_
   refine x_m hA rfl fun ac hA => ?_
   refine x_v hA (r_ltI rfl (hA.ev rfl) (hA.ev rfl)) rfl fun ac hA => ?_
   refine x_m hA rfl fun ac hA => ?_
   refine bcase (b := decide (x1378 < a2)) (fun hb1420 => ?_) fun hb1420 => ?_
   ·replace hF := ift hb1420 hF
    refine x_on hb1420 hA ?_ rfl rfl rfl
    refine x_m hA rfl fun ac hA => ?_
    refine x_on hb1420 hA ?_ rfl rfl rfl
    refine x_m hA rfl fun ac hA => ?_
    refine x_on hb1420 hA ?_ rfl rfl rfl
    refine x_v hA (r_ltI rfl (hA.ev rfl) (hA.ev rfl)) rfl fun ac hA => ?_
    refine x_pickt hb1420 hA (fun ac hA => ?_) rfl rfl rfl rfl rfl rfl
    refine wpList_nil ?_
    exact hj6 (decide (a2 < IntKind.i64.wrap ((IntKind.i64.wrap ((IntKind.i64.wrap (ishr .u64 (IntKind.u64.wrap (IntKind.i64.wrap (a1 + a3))) 1)) + a2)) - x1378))) hF ac w (hA.sub _ rfl) hS
   replace hF := iff' hb1420 hF
   refine x_off hb1420 hA (fun ac hA => ?_) rfl rfl rfl rfl rfl
   refine x_off hb1420 hA (fun ac hA => ?_) rfl rfl rfl rfl rfl
   refine x_off hb1420 hA (fun ac hA => ?_) rfl rfl rfl rfl rfl
   refine x_pickf hb1420 hA (fun ac hA => ?_) rfl rfl rfl rfl rfl rfl
   refine wpList_nil ?_
   exact hj6 false hF ac w (hA.sub _ rfl) hS
  obtain ⟨t1485, hl1485, hF⟩ := bnd hF
  have hx1485_8 : ∀ (x1485 : Int), (x1485) = t1485 → ∀ (ac : Act) (w : World), FR 220 [] ac [(0, .slice A0 n0 c0), (1, .int .i64 a1), (2, .int .i64 a2), (3, .int .i64 a3), (4, .func (.func 34) #[] #[]), (18, .int .i64 (IntKind.i64.wrap (ishr .u64 (IntKind.u64.wrap (IntKind.i64.wrap (a1 + a3))) 1))), (19, .int .i64 (IntKind.i64.wrap ((IntKind.i64.wrap (ishr .u64 (IntKind.u64.wrap (IntKind.i64.wrap (a1 + a3))) 1)) + a2))), (20, .int .i64 x1485)] → SH r (own k37 37 A0 n0 c0 a0 :: L) w → Kx1282 ac w := by
   intro x1485 ht ac w hA hS
   subst ht
   replace hF : slices_symMergeCmpFunc_api_Event_x5_8 rec_ a0 a1 a2 a3 x1485 = some y := hF
   unfold slices_symMergeCmpFunc_api_Event_x5_8 at hF
   exact hb7 x1485 hF ac w (hA.sub _ rfl) hS
  refine wp_loop_fn hl1485 (fun s ac w => FR 220 [] ac [(0, .slice A0 n0 c0), (1, .int .i64 a1), (2, .int .i64 a2), (3, .int .i64 a3), (4, .func (.func 34) #[] #[]), (18, .int .i64 (IntKind.i64.wrap (ishr .u64 (IntKind.u64.wrap (IntKind.i64.wrap (a1 + a3))) 1))), (19, .int .i64 (IntKind.i64.wrap ((IntKind.i64.wrap (ishr .u64 (IntKind.u64.wrap (IntKind.i64.wrap (a1 + a3))) 1)) + a2))), (20, .int .i64 s.1), (21, .int .i64 s.2), (22, .int .i64 (IntKind.i64.wrap ((IntKind.i64.wrap ((IntKind.i64.wrap (ishr .u64 (IntKind.u64.wrap (IntKind.i64.wrap (a1 + a3))) 1)) + a2)) - 1)))] ∧ SH r (own k37 37 A0 n0 c0 a0 :: L) w) ⟨hA.sub _ rfl, hS⟩ ?_
  intro N1485 s1485 o1485 hF N1485_ T1485_ ac w hLab
  obtain ⟨x1452, x1453⟩ := s1485
  replace hF : slices_symMergeCmpFunc_api_Event_l5 a0 a1 a2 a3 x1452 x1453 = some o1485 := hF
  unfold slices_symMergeCmpFunc_api_Event_l5 at hF
  try dsimp only at hLab
  obtain ⟨hA, hS⟩ := hLab
  refine wp_seq_k fun K1487 hK1487 => ?_
  refine ws fun K1488 hK1488 => ?_
  refine x_m hA rfl fun ac hA => ?_
  refine x_m hA rfl fun ac hA => ?_
  refine x_v hA (r_ltI rfl (hA.ev rfl) (hA.ev rfl)) rfl fun ac hA => ?_
  refine wn (hK1488 _ _ ?_)
  refine c_if hA rfl (fun hb1489 => ?_) fun hb1489 => ?_
  ·replace hF := ift hb1489 hF
   refine wp_skip ?_
   refine hK1487 _ _ ?_
   refine wp_block_k fun Kx1490 hKx1490 => ?_
   have hb8 : ∀ (x1502 : Int) (x1503 : Int), slices_symMergeCmpFunc_api_Event_b8 x1502 x1503 = some o1485 → ∀ (ac : Act) (w : World), FR 220 [] ac [(0, .slice A0 n0 c0), (1, .int .i64 a1), (2, .int .i64 a2), (3, .int .i64 a3), (4, .func (.func 34) #[] #[]), (18, .int .i64 (IntKind.i64.wrap (ishr .u64 (IntKind.u64.wrap (IntKind.i64.wrap (a1 + a3))) 1))), (19, .int .i64 (IntKind.i64.wrap ((IntKind.i64.wrap (ishr .u64 (IntKind.u64.wrap (IntKind.i64.wrap (a1 + a3))) 1)) + a2))), (20, .int .i64 x1502), (21, .int .i64 x1503), (22, .int .i64 (IntKind.i64.wrap ((IntKind.i64.wrap ((IntKind.i64.wrap (ishr .u64 (IntKind.u64.wrap (IntKind.i64.wrap (a1 + a3))) 1)) + a2)) - 1)))] → SH r (own k37 37 A0 n0 c0 a0 :: L) w → Kx1490 ac w := by
    intro x1502 x1503 hF ac w hA hS
    unfold slices_symMergeCmpFunc_api_Event_b8 at hF
    refine hKx1490 _ _ ?_
    cases hF
    exact ⟨_, N1485_ _ rfl, hA.sub _ rfl, hS⟩
   refine ws fun K1504 hK1504 => ?_
   refine x_m hA rfl fun ac hA => ?_
   refine x_m hA rfl fun ac hA => ?_
   refine x_v hA (r_add rfl (hA.ev rfl) (hA.ev rfl)) rfl fun ac hA => ?_
   refine x_v hA (r_convI Tryz.underlying3 Tryz.underlying101 rfl (hA.ev rfl)) rfl fun ac hA => ?_
   refine x_v hA (r_shr rfl (hA.ev rfl) (hA.ev rfl) (by decide)) rfl fun ac hA => ?_
   refine x_v hA (r_convI Tryz.underlying101 Tryz.underlying3 rfl (hA.ev rfl)) rfl fun ac hA => ?_
   refine x_m hA rfl fun ac hA => ?_
   refine wn (hK1504 _ _ ?_)
   refine wp_seq_k fun K1505 hK1505 => ?_
   refine wp_draw [0, 0, 0, 0, 12, 30, 62, 0, 0, 384, 896, 2047, 4095, 8191] [11] rfl hA hS (by kernel_rfl) (by kernel_rfl) (by kernel_rfl) (by kernel_rfl) fun w hS => ?_
   obtain ⟨x1506, h1507, hF⟩ := bnd hF
   obtain ⟨cs, hV, hc1508⟩ := el (hS.rd 0 rfl) h1507
   obtain rfl := hV
   obtain ⟨x1509, h1510, hF⟩ := bnd hF
   obtain ⟨cs, hV, hc1511⟩ := el (hS.rd 0 rfl) h1510
   obtain rfl := hV
   refine ⟨[(0, .func (.func 34) #[] #[]), (1, .slice A0 n0 c0), (2, .int .i64 (IntKind.i64.wrap ((IntKind.i64.wrap ((IntKind.i64.wrap (ishr .u64 (IntKind.u64.wrap (IntKind.i64.wrap (a1 + a3))) 1)) + a2)) - 1))), (3, .int .i64 (IntKind.i64.wrap (ishr .u64 (IntKind.u64.wrap (IntKind.i64.wrap (x1452 + x1453))) 1))), (4, .int .i64 (IntKind.i64.wrap ((IntKind.i64.wrap ((IntKind.i64.wrap ((IntKind.i64.wrap (ishr .u64 (IntKind.u64.wrap (IntKind.i64.wrap (a1 + a3))) 1)) + a2)) - 1)) - (IntKind.i64.wrap (ishr .u64 (IntKind.u64.wrap (IntKind.i64.wrap (x1452 + x1453))) 1))))), (5, .pointer (some (ea A0 ((IntKind.i64.wrap ((IntKind.i64.wrap ((IntKind.i64.wrap ((IntKind.i64.wrap (ishr .u64 (IntKind.u64.wrap (IntKind.i64.wrap (a1 + a3))) 1)) + a2)) - 1)) - (IntKind.i64.wrap (ishr .u64 (IntKind.u64.wrap (IntKind.i64.wrap (x1452 + x1453))) 1)))).toNat * 5)))), (6, .agg #[.int .u64 x1506.f0, .int .i64 x1506.f1, .int .i64 x1506.f2, str x1506.f3, .float .f64 x1506.f4]), (7, .slice A0 n0 c0), (8, .int .i64 (IntKind.i64.wrap (ishr .u64 (IntKind.u64.wrap (IntKind.i64.wrap (x1452 + x1453))) 1))), (9, .pointer (some (ea A0 ((IntKind.i64.wrap (ishr .u64 (IntKind.u64.wrap (IntKind.i64.wrap (x1452 + x1453))) 1)).toNat * 5)))), (10, .agg #[.int .u64 x1509.f0, .int .i64 x1509.f1, .int .i64 x1509.f2, str x1509.f3, .float .f64 x1509.f4])], ?_⟩
   refine dEff [0, 1, 2, 3, 4, 5, 6, 7, 8, 9, 10] [11] (by kernel_rfl) ⟨pu rfl rfl [(4, .func (.func 34) #[] #[])] (fun ac hA => y_move hA rfl rfl) rfl rfl, pu rfl rfl [(0, .slice A0 n0 c0)] (fun ac hA => y_move hA rfl rfl) rfl rfl, pu rfl rfl [(22, .int .i64 (IntKind.i64.wrap ((IntKind.i64.wrap ((IntKind.i64.wrap (ishr .u64 (IntKind.u64.wrap (IntKind.i64.wrap (a1 + a3))) 1)) + a2)) - 1)))] (fun ac hA => y_move hA rfl rfl) rfl rfl, pu rfl rfl [(23, .int .i64 (IntKind.i64.wrap (ishr .u64 (IntKind.u64.wrap (IntKind.i64.wrap (x1452 + x1453))) 1)))] (fun ac hA => y_move hA rfl rfl) rfl rfl, pu rfl rfl [(160, .int .i64 (IntKind.i64.wrap ((IntKind.i64.wrap ((IntKind.i64.wrap (ishr .u64 (IntKind.u64.wrap (IntKind.i64.wrap (a1 + a3))) 1)) + a2)) - 1))), (161, .int .i64 (IntKind.i64.wrap (ishr .u64 (IntKind.u64.wrap (IntKind.i64.wrap (x1452 + x1453))) 1)))] (fun ac hA => r_sub rfl (hA.ev rfl) (hA.ev rfl)) rfl rfl, pu rfl rfl [(159, .slice A0 n0 c0), (162, .int .i64 (IntKind.i64.wrap ((IntKind.i64.wrap ((IntKind.i64.wrap ((IntKind.i64.wrap (ishr .u64 (IntKind.u64.wrap (IntKind.i64.wrap (a1 + a3))) 1)) + a2)) - 1)) - (IntKind.i64.wrap (ishr .u64 (IntKind.u64.wrap (IntKind.i64.wrap (x1452 + x1453))) 1)))))] (fun ac hA => y_ia Tryz.underlying23 sz37 (hS.rd 0 rfl) h1507 hA rfl rfl rfl) rfl rfl, pu rfl rfl [(163, .pointer (some (ea A0 ((IntKind.i64.wrap ((IntKind.i64.wrap ((IntKind.i64.wrap ((IntKind.i64.wrap (ishr .u64 (IntKind.u64.wrap (IntKind.i64.wrap (a1 + a3))) 1)) + a2)) - 1)) - (IntKind.i64.wrap (ishr .u64 (IntKind.u64.wrap (IntKind.i64.wrap (x1452 + x1453))) 1)))).toNat * 5))))] (fun ac hA => y_lda (cs := [.int .u64 x1506.f0, .int .i64 x1506.f1, .int .i64 x1506.f2, str x1506.f3, .float .f64 x1506.f4]) Tryz.underlying37 sz37 (fun j u h => by rw [ea_add]; exact hc1508 _ _ h) hA rfl rfl rfl) rfl rfl, pu rfl rfl [(0, .slice A0 n0 c0)] (fun ac hA => y_move hA rfl rfl) rfl rfl, pu rfl rfl [(23, .int .i64 (IntKind.i64.wrap (ishr .u64 (IntKind.u64.wrap (IntKind.i64.wrap (x1452 + x1453))) 1)))] (fun ac hA => y_move hA rfl rfl) rfl rfl, pu rfl rfl [(165, .slice A0 n0 c0), (166, .int .i64 (IntKind.i64.wrap (ishr .u64 (IntKind.u64.wrap (IntKind.i64.wrap (x1452 + x1453))) 1)))] (fun ac hA => y_ia Tryz.underlying23 sz37 (hS.rd 0 rfl) h1510 hA rfl rfl rfl) rfl rfl, pu rfl rfl [(167, .pointer (some (ea A0 ((IntKind.i64.wrap (ishr .u64 (IntKind.u64.wrap (IntKind.i64.wrap (x1452 + x1453))) 1)).toNat * 5))))] (fun ac hA => y_lda (cs := [.int .u64 x1509.f0, .int .i64 x1509.f1, .int .i64 x1509.f2, str x1509.f3, .float .f64 x1509.f4]) Tryz.underlying37 sz37 (fun j u h => by rw [ea_add]; exact hc1511 _ _ h) hA rfl rfl rfl) rfl rfl, trivial⟩ (by kernel_rfl) (by kernel_rfl) ⟨ef rfl [(158, .func (.func 34) #[] #[]), (164, .agg #[.int .u64 x1506.f0, .int .i64 x1506.f1, .int .i64 x1506.f2, str x1506.f3, .float .f64 x1506.f4]), (168, .agg #[.int .u64 x1509.f0, .int .i64 x1509.f1, .int .i64 x1509.f2, str x1509.f3, .float .f64 x1509.f4])] (fun ac hA K hK => ?_) rfl rfl, trivial⟩
   obtain ⟨y1512, h1513, hF⟩ := bnd hF
   refine z_callv en34 hA (F_event_Sort_1 (L := own k37 37 A0 n0 c0 a0 :: L) x1506 x1509 h1513 hS) (fun v w hR => ?_) rfl rfl rfl rfl
   obtain ⟨rfl, hS⟩ := hR
   refine hK _ [(12, .bool (decide (y1512 < 0))), (13, .bool (!(decide (y1512 < 0))))] _ rfl ?_
   refine dEnd [12, 13] (by kernel_rfl) ⟨pu rfl rfl [(169, .int .i64 y1512)] (fun ac hA => r_ltI rfl (hA.ev rfl) (hA.ev rfl)) rfl rfl, pu rfl rfl [(170, .bool (decide (y1512 < 0)))] (fun ac hA => r_not rfl (hA.ev rfl)) rfl rfl, trivial⟩ ⟨by kernel_rfl, by kernel_rfl⟩ [(0, .slice A0 n0 c0), (1, .int .i64 a1), (2, .int .i64 a2), (3, .int .i64 a3), (4, .func (.func 34) #[] #[]), (18, .int .i64 (IntKind.i64.wrap (ishr .u64 (IntKind.u64.wrap (IntKind.i64.wrap (a1 + a3))) 1))), (19, .int .i64 (IntKind.i64.wrap ((IntKind.i64.wrap (ishr .u64 (IntKind.u64.wrap (IntKind.i64.wrap (a1 + a3))) 1)) + a2))), (20, .int .i64 x1452), (21, .int .i64 x1453), (22, .int .i64 (IntKind.i64.wrap ((IntKind.i64.wrap ((IntKind.i64.wrap (ishr .u64 (IntKind.u64.wrap (IntKind.i64.wrap (a1 + a3))) 1)) + a2)) - 1))), (23, .int .i64 (IntKind.i64.wrap (ishr .u64 (IntKind.u64.wrap (IntKind.i64.wrap (x1452 + x1453))) 1))), (171, .bool (!(decide (y1512 < 0))))] rfl (fun ac hA => ?_)
   refine hK1505 _ _ ?_
   refine c_if hA rfl (fun hb1514 => ?_) fun hb1514 => ?_
   ·replace hF := ift hb1514 hF
    refine wp_reg ?_
    refine x_m hA rfl fun ac hA => ?_
    refine x_v hA (r_add rfl (hA.ev rfl) (hA.ev rfl)) rfl fun ac hA => ?_
    refine x_m hA rfl fun ac hA => ?_
    refine wpList_nil ?_
    exact hb8 (IntKind.i64.wrap ((IntKind.i64.wrap (ishr .u64 (IntKind.u64.wrap (IntKind.i64.wrap (x1452 + x1453))) 1)) + 1)) x1453 hF ac w (hA.sub _ rfl) hS
   replace hF := iff' hb1514 hF
   refine wp_reg ?_
   refine x_m hA rfl fun ac hA => ?_
   refine x_m hA rfl fun ac hA => ?_
   refine wpList_nil ?_
   exact hb8 x1452 (IntKind.i64.wrap (ishr .u64 (IntKind.u64.wrap (IntKind.i64.wrap (x1452 + x1453))) 1)) hF ac w (hA.sub _ rfl) hS
  replace hF := iff' hb1489 hF
  refine wp_exit ?_
  cases hF
  exact hx1485_8 x1452 (T1485_ _ rfl) ac w (hA.sub _ rfl) hS
 refine ws fun K1515 hK1515 => ?_
 refine x_m hA rfl fun ac hA => ?_
 refine x_m hA rfl fun ac hA => ?_
 refine x_v hA (r_gtI rfl (hA.ev rfl) (hA.ev rfl)) rfl fun ac hA => ?_
 refine wn (hK1515 _ _ ?_)
 refine c_if hA rfl (fun hb1516 => ?_) fun hb1516 => ?_
 ·replace hF := ift hb1516 hF
  refine ws fun K1517 hK1517 => ?_
  refine x_m hA rfl fun ac hA => ?_
  refine x_m hA rfl fun ac hA => ?_
  refine x_v hA (r_sub rfl (hA.ev rfl) (hA.ev rfl)) rfl fun ac hA => ?_
  refine x_m hA rfl fun ac hA => ?_
  refine wn (hK1517 _ _ ?_)
  refine wp_reg ?_
  refine x_m hA rfl fun ac hA => ?_
  refine x_m hA rfl fun ac hA => ?_
  refine wpList_nil ?_
  exact hj1 (IntKind.i64.wrap ((IntKind.i64.wrap ((IntKind.i64.wrap (ishr .u64 (IntKind.u64.wrap (IntKind.i64.wrap (a1 + a3))) 1)) + a2)) - a3)) (IntKind.i64.wrap (ishr .u64 (IntKind.u64.wrap (IntKind.i64.wrap (a1 + a3))) 1)) hF ac w (hA.sub _ rfl) hS
 replace hF := iff' hb1516 hF
 refine ws fun K1518 hK1518 => ?_
 refine x_m hA rfl fun ac hA => ?_
 refine x_m hA rfl fun ac hA => ?_
 refine wn (hK1518 _ _ ?_)
 refine wp_reg ?_
 refine x_m hA rfl fun ac hA => ?_
 refine x_m hA rfl fun ac hA => ?_
 refine wpList_nil ?_
 exact hj1 a1 a2 hF ac w (hA.sub _ rfl) hS
theorem Fk_slices_symMergeCmpFunc_api_Event (k : Nat) : ∀ {r : World} {L : List HP} {w : World} (a0 : (List S37)) (a1 : Int) (a2 : Int) (a3 : Int) (A0 : Option Addr) (n0 : Nat) (c0 : Nat) {y : ((List S37))} (hF : slices_symMergeCmpFunc_api_Event_k k a0 a1 a2 a3 = some y) (hS : SH r (own k37 37 A0 n0 c0 a0 :: L) w), Ret Tryz.prog 81 #[.slice A0 n0 c0, .int .i64 a1, .int .i64 a2, .int .i64 a3, .func (.func 34) #[] #[]] w fun v w' => v = .tuple #[] ∧ SH r (own k37 37 A0 n0 c0 y :: L) w' := by
 induction k with
 | zero => intros; rename_i hF _; cases hF
 | succ k ih => exact Fs_slices_symMergeCmpFunc_api_Event (slices_symMergeCmpFunc_api_Event_k k) ih
theorem F_slices_symMergeCmpFunc_api_Event {r : World} {L : List HP} {w : World} (a0 : (List S37)) (a1 : Int) (a2 : Int) (a3 : Int) (A0 : Option Addr) (n0 : Nat) (c0 : Nat) {y : ((List S37))} (hF : slices_symMergeCmpFunc_api_Event a0 a1 a2 a3 = some y) (hS : SH r (own k37 37 A0 n0 c0 a0 :: L) w) :
  Ret Tryz.prog 81 #[.slice A0 n0 c0, .int .i64 a1, .int .i64 a2, .int .i64 a3, .func (.func 34) #[] #[]] w fun v w' => v = .tuple #[] ∧ SH r (own k37 37 A0 n0 c0 y :: L) w' := Fk_slices_symMergeCmpFunc_api_Event 64 a0 a1 a2 a3 A0 n0 c0 hF hS
theorem F_slices_insertionSortCmpFunc_api_Event {r : World} {L : List HP} {w : World} (a0 : (List S37)) (a1 : Int) (a2 : Int) (A0 : Option Addr) (n0 : Nat) (c0 : Nat) {y : ((List S37))} (hF : slices_insertionSortCmpFunc_api_Event a0 a1 a2 = some y) (hS : SH r (own k37 37 A0 n0 c0 a0 :: L) w) :
  Ret Tryz.prog 80 #[.slice A0 n0 c0, .int .i64 a1, .int .i64 a2, .func (.func 34) #[] #[]] w fun v w' => v = .tuple #[] ∧ SH r (own k37 37 A0 n0 c0 y :: L) w' := by
 refine enter Tryz.func80 rfl Tryz.ntmps80 [(0, .slice A0 n0 c0), (1, .int .i64 a1), (2, .int .i64 a2), (3, .func (.func 34) #[] #[])] rfl (by simp) ?_
 intro ac hA Qf hQ hQn
 unfold slices_insertionSortCmpFunc_api_Event at hF
 refine ws fun K101 hK101 => ?_
 refine x_m hA rfl fun ac hA => ?_
 refine x_v hA (r_add rfl (hA.ev rfl) (hA.ev rfl)) rfl fun ac hA => ?_
 refine x_m hA rfl fun ac hA => ?_
 refine wn (hK101 _ _ ?_)
 refine wp_block_k fun Kx102 hKx102 => ?_
 have hb1 : ∀ (l2745 : (List S37)), slices_insertionSortCmpFunc_api_Event_b1 l2745 = some y → ∀ (ac : Act) (w : World), FR 53 [] ac [(0, .slice A0 n0 c0), (3, .func (.func 34) #[] #[])] → SH r (own k37 37 A0 n0 c0 l2745 :: L) w → Kx102 ac w := by
  intro l2745 hF ac w hA hS
  unfold slices_insertionSortCmpFunc_api_Event_b1 at hF
  refine hKx102 _ _ ?_
  cases hF
  refine hQn _ _ ?_
  refine lv0n Tryz.results80 hA ?_
  exact ⟨rfl, hS⟩
 obtain ⟨t4508, hl4508, hF⟩ := bnd hF
 have hx4508_0 : ∀ (l4508 : (List S37)), (l4508) = t4508 → ∀ (ac : Act) (w : World), FR 53 [] ac [(0, .slice A0 n0 c0), (3, .func (.func 34) #[] #[])] → SH r (own k37 37 A0 n0 c0 l4508 :: L) w → Kx102 ac w := by
  intro l4508 ht ac w hA hS
  subst ht
  replace hF : slices_insertionSortCmpFunc_api_Event_x1_0 l4508 = some y := hF
  unfold slices_insertionSortCmpFunc_api_Event_x1_0 at hF
  exact hb1 l4508 hF ac w (hA.sub _ rfl) hS
 refine wp_loop_fn hl4508 (fun s ac w => FR 53 [] ac [(0, .slice A0 n0 c0), (1, .int .i64 a1), (2, .int .i64 a2), (3, .func (.func 34) #[] #[]), (8, .int .i64 s.2)] ∧ SH r (own k37 37 A0 n0 c0 s.1 :: L) w) ⟨hA.sub _ rfl, hS⟩ ?_
 intro N4508 s4508 o4508 hF N4508_ T4508_ ac w hLab
 obtain ⟨l3626, x3627⟩ := s4508
 replace hF : slices_insertionSortCmpFunc_api_Event_l1 a1 a2 l3626 x3627 = some o4508 := hF
 unfold slices_insertionSortCmpFunc_api_Event_l1 at hF
 try dsimp only at hLab
 obtain ⟨hA, hS⟩ := hLab
 refine wp_seq_k fun K4510 hK4510 => ?_
 refine ws fun K4511 hK4511 => ?_
 refine x_m hA rfl fun ac hA => ?_
 refine x_m hA rfl fun ac hA => ?_
 refine x_v hA (r_ltI rfl (hA.ev rfl) (hA.ev rfl)) rfl fun ac hA => ?_
 refine wn (hK4511 _ _ ?_)
 refine c_if hA rfl (fun hb4512 => ?_) fun hb4512 => ?_
 ·replace hF := ift hb4512 hF
  refine wp_skip ?_
  refine hK4510 _ _ ?_
  refine wp_seq_k fun K4513 hK4513 => ?_
  refine wp_block_k fun Kx4951 hKx4951 => ?_
  refine ws fun K5170 hK5170 => ?_
  refine x_m hA rfl fun ac hA => ?_
  refine x_m hA rfl fun ac hA => ?_
  refine wn (hK5170 _ _ ?_)
  refine wp_block_k fun Kx5171 hKx5171 => ?_
  have hb2 : ∀ (l5279 : (List S37)), slices_insertionSortCmpFunc_api_Event_b2 x3627 l5279 = some o4508 → ∀ (ac : Act) (w : World), FR 53 [] ac [(0, .slice A0 n0 c0), (1, .int .i64 a1), (2, .int .i64 a2), (3, .func (.func 34) #[] #[]), (8, .int .i64 x3627)] → SH r (own k37 37 A0 n0 c0 l5279 :: L) w → Kx5171 ac w := by
   intro l5279 hF ac w hA hS
   unfold slices_insertionSortCmpFunc_api_Event_b2 at hF
   refine hKx5171 _ _ ?_
   refine hKx4951 _ _ ?_
   refine hK4513 _ _ ?_
   refine wp_reg ?_
   refine x_m hA rfl fun ac hA => ?_
   refine x_v hA (r_add rfl (hA.ev rfl) (hA.ev rfl)) rfl fun ac hA => ?_
   refine x_m hA rfl fun ac hA => ?_
   refine wpList_nil ?_
   cases hF
   exact ⟨_, N4508_ _ rfl, hA.sub _ rfl, hS⟩
  obtain ⟨t5352, hl5352, hF⟩ := bnd hF
  have hx5352_2 : ∀ (l5352 : (List S37)), (l5352) = t5352 → ∀ (ac : Act) (w : World), FR 53 [] ac [(0, .slice A0 n0 c0), (1, .int .i64 a1), (2, .int .i64 a2), (3, .func (.func 34) #[] #[]), (8, .int .i64 x3627)] → SH r (own k37 37 A0 n0 c0 l5352 :: L) w → Kx5171 ac w := by
   intro l5352 ht ac w hA hS
   subst ht
   replace hF : slices_insertionSortCmpFunc_api_Event_x2_2 x3627 l5352 = some o4508 := hF
   unfold slices_insertionSortCmpFunc_api_Event_x2_2 at hF
   exact hb2 l5352 hF ac w (hA.sub _ rfl) hS
  refine wp_loop_fn hl5352 (fun s ac w => FR 53 [] ac [(0, .slice A0 n0 c0), (1, .int .i64 a1), (2, .int .i64 a2), (3, .func (.func 34) #[] #[]), (8, .int .i64 x3627), (9, .int .i64 s.2)] ∧ SH r (own k37 37 A0 n0 c0 s.1 :: L) w) ⟨hA.sub _ rfl, hS⟩ ?_
  intro N5352 s5352 o5352 hF N5352_ T5352_ ac w hLab
  obtain ⟨l5315, x5316⟩ := s5352
  replace hF : slices_insertionSortCmpFunc_api_Event_l2 a1 l5315 x5316 = some o5352 := hF
  unfold slices_insertionSortCmpFunc_api_Event_l2 at hF
  try dsimp only at hLab
  obtain ⟨hA, hS⟩ := hLab
  refine wp_seq_k fun K5354 hK5354 => ?_
  refine wp_seq_k fun K5355 hK5355 => ?_
  have hj1 : ∀ (b5365 : Bool), slices_insertionSortCmpFunc_api_Event_j1 l5315 x5316 b5365 = some o5352 → ∀ (ac : Act) (w : World), FR 53 [] ac [(0, .slice A0 n0 c0), (1, .int .i64 a1), (2, .int .i64 a2), (3, .func (.func 34) #[] #[]), (8, .int .i64 x3627), (9, .int .i64 x5316), (34, .bool b5365)] → SH r (own k37 37 A0 n0 c0 l5315 :: L) w → K5355 ac w := by
   intro b5365 hF ac w hA hS
   unfold slices_insertionSortCmpFunc_api_Event_j1 at hF
   refine hK5355 _ _ ?_
   refine c_if hA rfl (fun hb5366 => ?_) fun hb5366 => ?_
   ·replace hF := ift hb5366 hF
    refine wp_skip ?_
    refine hK5354 _ _ ?_
    refine wp_seq_k fun K5367 hK5367 => ?_
    refine wp_block_k fun Kx5368 hKx5368 => ?_
    refine wp_draw [0, 0, 0, 0, 8, 0, 0, 64, 224, 480, 0, 0, 3072, 7168, 16355, 32739, 65535, 131071] [15, 17] rfl hA hS (by kernel_rfl) (by kernel_rfl) (by kernel_rfl) (by kernel_rfl) fun w hS => ?_
    obtain ⟨x5369, h5370, hF⟩ := bnd hF
    obtain ⟨cs, hV, hc5371⟩ := el (hS.rd 0 rfl) h5370
    obtain rfl := hV
    obtain ⟨x5372, h5373, hF⟩ := bnd hF
    obtain ⟨cs, hV, hc5374⟩ := el (hS.rd 0 rfl) h5373
    obtain rfl := hV
    refine ⟨[(0, .slice A0 n0 c0), (1, .int .i64 x5316), (2, .slice A0 n0 c0), (3, .int .i64 x5316), (4, .int .i64 (IntKind.i64.wrap (x5316 - 1))), (5, .slice A0 n0 c0), (6, .int .i64 x5316), (7, .int .i64 (IntKind.i64.wrap (x5316 - 1))), (8, .pointer (some (ea A0 ((IntKind.i64.wrap (x5316 - 1)).toNat * 5)))), (9, .agg #[.int .u64 x5369.f0, .int .i64 x5369.f1, .int .i64 x5369.f2, str x5369.f3, .float .f64 x5369.f4]), (10, .slice A0 n0 c0), (11, .int .i64 x5316), (12, .pointer (some (ea A0 (x5316.toNat * 5)))), (13, .agg #[.int .u64 x5372.f0, .int .i64 x5372.f1, .int .i64 x5372.f2, str x5372.f3, .float .f64 x5372.f4]), (14, .pointer (some (ea A0 (x5316.toNat * 5))))], ?_⟩
    refine dEff [0, 1, 2, 3, 4, 5, 6, 7, 8, 9, 10, 11, 12, 13, 14] [15] (by kernel_rfl) ⟨pu rfl rfl [(0, .slice A0 n0 c0)] (fun ac hA => y_move hA rfl rfl) rfl rfl, pu rfl rfl [(9, .int .i64 x5316)] (fun ac hA => y_move hA rfl rfl) rfl rfl, pu rfl rfl [(0, .slice A0 n0 c0)] (fun ac hA => y_move hA rfl rfl) rfl rfl, pu rfl rfl [(9, .int .i64 x5316)] (fun ac hA => y_move hA rfl rfl) rfl rfl, pu rfl rfl [(40, .int .i64 x5316)] (fun ac hA => r_sub rfl (hA.ev rfl) (hA.ev rfl)) rfl rfl, pu rfl rfl [(0, .slice A0 n0 c0)] (fun ac hA => y_move hA rfl rfl) rfl rfl, pu rfl rfl [(9, .int .i64 x5316)] (fun ac hA => y_move hA rfl rfl) rfl rfl, pu rfl rfl [(43, .int .i64 x5316)] (fun ac hA => r_sub rfl (hA.ev rfl) (hA.ev rfl)) rfl rfl, pu rfl rfl [(42, .slice A0 n0 c0), (44, .int .i64 (IntKind.i64.wrap (x5316 - 1)))] (fun ac hA => y_ia Tryz.underlying23 sz37 (hS.rd 0 rfl) h5370 hA rfl rfl rfl) rfl rfl, pu rfl rfl [(45, .pointer (some (ea A0 ((IntKind.i64.wrap (x5316 - 1)).toNat * 5))))] (fun ac hA => y_lda (cs := [.int .u64 x5369.f0, .int .i64 x5369.f1, .int .i64 x5369.f2, str x5369.f3, .float .f64 x5369.f4]) Tryz.underlying37 sz37 (fun j u h => by rw [ea_add]; exact hc5371 _ _ h) hA rfl rfl rfl) rfl rfl, pu rfl rfl [(0, .slice A0 n0 c0)] (fun ac hA => y_move hA rfl rfl) rfl rfl, pu rfl rfl [(9, .int .i64 x5316)] (fun ac hA => y_move hA rfl rfl) rfl rfl, pu rfl rfl [(47, .slice A0 n0 c0), (48, .int .i64 x5316)] (fun ac hA => y_ia Tryz.underlying23 sz37 (hS.rd 0 rfl) h5373 hA rfl rfl rfl) rfl rfl, pu rfl rfl [(49, .pointer (some (ea A0 (x5316.toNat * 5))))] (fun ac hA => y_lda (cs := [.int .u64 x5372.f0, .int .i64 x5372.f1, .int .i64 x5372.f2, str x5372.f3, .float .f64 x5372.f4]) Tryz.underlying37 sz37 (fun j u h => by rw [ea_add]; exact hc5374 _ _ h) hA rfl rfl rfl) rfl rfl, pu rfl rfl [(37, .slice A0 n0 c0), (38, .int .i64 x5316)] (fun ac hA => y_ia Tryz.underlying23 sz37 (hS.rd 0 rfl) h5373 hA rfl rfl rfl) rfl rfl, trivial⟩ (by kernel_rfl) (by kernel_rfl) ⟨ef rfl [(46, .agg #[.int .u64 x5369.f0, .int .i64 x5369.f1, .int .i64 x5369.f2, str x5369.f3, .float .f64 x5369.f4]), (51, .pointer (some (ea A0 (x5316.toNat * 5))))] (fun ac hA K hK => ?_) rfl rfl, trivial⟩
    refine z_sto (z' := x5369) (off := 0) (vs := [.int .u64 x5369.f0, .int .i64 x5369.f1, .int .i64 x5369.f2, str x5369.f3, .float .f64 x5369.f4]) 0 sz37 hA hS rfl (at_some h5373).2.2 (fun c h => by cases h; rfl) (fun  w hS => ?_) rfl rfl rfl rfl rfl rfl
    obtain ⟨x5375, h5376, hF⟩ := bnd hF
    refine hK _ [(16, .pointer (some (ea A0 ((IntKind.i64.wrap (x5316 - 1)).toNat * 5))))] _ rfl ?_
    refine dEff [2, 3, 4, 16] [17] (by kernel_rfl) ⟨pu rfl rfl [(0, .slice A0 n0 c0)] (fun ac hA => y_move hA rfl rfl) rfl rfl, pu rfl rfl [(9, .int .i64 x5316)] (fun ac hA => y_move hA rfl rfl) rfl rfl, pu rfl rfl [(40, .int .i64 x5316)] (fun ac hA => r_sub rfl (hA.ev rfl) (hA.ev rfl)) rfl rfl, pu rfl rfl [(39, .slice A0 n0 c0), (41, .int .i64 (IntKind.i64.wrap (x5316 - 1)))] (fun ac hA => y_ia Tryz.underlying23 sz37 (hS.rd 0 rfl) h5376 hA rfl rfl rfl) rfl rfl, trivial⟩ (by kernel_rfl) (by kernel_rfl) ⟨ef rfl [(50, .agg #[.int .u64 x5372.f0, .int .i64 x5372.f1, .int .i64 x5372.f2, str x5372.f3, .float .f64 x5372.f4]), (52, .pointer (some (ea A0 ((IntKind.i64.wrap (x5316 - 1)).toNat * 5))))] (fun ac hA K hK => ?_) rfl rfl, trivial⟩
    refine z_sto (z' := x5372) (off := 0) (vs := [.int .u64 x5372.f0, .int .i64 x5372.f1, .int .i64 x5372.f2, str x5372.f3, .float .f64 x5372.f4]) 0 sz37 hA hS rfl (at_some h5376).2.2 (fun c h => by cases h; rfl) (fun  w hS => ?_) rfl rfl rfl rfl rfl rfl
    refine hK _ [] _ rfl ?_
    refine dEnd [] (by kernel_rfl) trivial ⟨by kernel_rfl, by kernel_rfl⟩ [(0, .slice A0 n0 c0), (1, .int .i64 a1), (2, .int .i64 a2), (3, .func (.func 34) #[] #[]), (8, .int .i64 x3627), (9, .int .i64 x5316)] rfl (fun ac hA => ?_)
    refine hKx5368 _ _ ?_
    refine hK5367 _ _ ?_
    refine wp_reg ?_
    refine x_m hA rfl fun ac hA => ?_
    refine x_v hA (r_sub rfl (hA.ev rfl) (hA.ev rfl)) rfl fun ac hA => ?_
    refine x_m hA rfl fun ac hA => ?_
    refine wpList_nil ?_
    cases hF
    exact ⟨_, N5352_ _ rfl, hA.sub _ rfl, hS⟩
   replace hF := iff' hb5366 hF
   refine wp_exit ?_
   cases hF
   exact hx5352_2 l5315 (T5352_ _ rfl) ac w (hA.sub _ rfl) hS
  refine wp_draw [0, 0, 3, 7, 15, 15, 15, 111, 239, 15, 15, 1039, 3599, 7695, 16383, 32767, 65535] [14] rfl hA hS (by kernel_rfl) (by kernel_rfl) (by kernel_rfl) (by kernel_rfl) fun w hS => ?_
  refine bcase (b := decide (a1 < x5316)) (fun hb5377 => ?_) fun hb5377 => ?_
  ·replace hF := ift hb5377 hF
   obtain ⟨x5378, h5379, hF⟩ := bnd hF
   obtain ⟨cs, hV, hc5380⟩ := el (hS.rd 0 rfl) h5379
   obtain rfl := hV
   obtain ⟨x5381, h5382, hF⟩ := bnd hF
   obtain ⟨cs, hV, hc5383⟩ := el (hS.rd 0 rfl) h5382
   obtain rfl := hV
   refine ⟨[(0, .int .i64 x5316), (1, .int .i64 a1), (2, .bool (decide (a1 < x5316))), (3, .bool (decide (a1 < x5316))), (4, .func (.func 34) #[] #[]), (5, .slice A0 n0 c0), (6, .int .i64 x5316), (7, .pointer (some (ea A0 (x5316.toNat * 5)))), (8, .agg #[.int .u64 x5378.f0, .int .i64 x5378.f1, .int .i64 x5378.f2, str x5378.f3, .float .f64 x5378.f4]), (9, .slice A0 n0 c0), (10, .int .i64 x5316), (11, .int .i64 (IntKind.i64.wrap (x5316 - 1))), (12, .pointer (some (ea A0 ((IntKind.i64.wrap (x5316 - 1)).toNat * 5)))), (13, .agg #[.int .u64 x5381.f0, .int .i64 x5381.f1, .int .i64 x5381.f2, str x5381.f3, .float .f64 x5381.f4])], ?_⟩
   refine dEff [0, 1, 2, 3, 4, 5, 6, 7, 8, 9, 10, 11, 12, 13] [14] (by kernel_rfl) ⟨pu rfl rfl [(9, .int .i64 x5316)] (fun ac hA => y_move hA rfl rfl) rfl rfl, pu rfl rfl [(1, .int .i64 a1)] (fun ac hA => y_move hA rfl rfl) rfl rfl, pu rfl rfl [(18, .int .i64 x5316), (19, .int .i64 a1)] (fun ac hA => r_gtI rfl (hA.ev rfl) (hA.ev rfl)) rfl rfl, pu rfl rfl [(20, .bool (decide (a1 < x5316)))] (fun ac hA => y_move hA rfl rfl) rfl rfl, puOn rfl rfl rfl rfl [(3, .func (.func 34) #[] #[]), (21, .bool (decide (a1 < x5316)))] rfl hb5377 (fun ac hA => y_move hA rfl rfl) rfl, puOn rfl rfl rfl rfl [(0, .slice A0 n0 c0), (21, .bool (decide (a1 < x5316)))] rfl hb5377 (fun ac hA => y_move hA rfl rfl) rfl, puOn rfl rfl rfl rfl [(9, .int .i64 x5316), (21, .bool (decide (a1 < x5316)))] rfl hb5377 (fun ac hA => y_move hA rfl rfl) rfl, puOn rfl rfl rfl rfl [(21, .bool (decide (a1 < x5316))), (23, .slice A0 n0 c0), (24, .int .i64 x5316)] rfl hb5377 (fun ac hA => y_ia Tryz.underlying23 sz37 (hS.rd 0 rfl) h5379 hA rfl rfl rfl) rfl, puOn rfl rfl rfl rfl [(21, .bool (decide (a1 < x5316))), (25, .pointer (some (ea A0 (x5316.toNat * 5))))] rfl hb5377 (fun ac hA => y_lda (cs := [.int .u64 x5378.f0, .int .i64 x5378.f1, .int .i64 x5378.f2, str x5378.f3, .float .f64 x5378.f4]) Tryz.underlying37 sz37 (fun j u h => by rw [ea_add]; exact hc5380 _ _ h) hA rfl rfl rfl) rfl, puOn rfl rfl rfl rfl [(0, .slice A0 n0 c0), (21, .bool (decide (a1 < x5316)))] rfl hb5377 (fun ac hA => y_move hA rfl rfl) rfl, puOn rfl rfl rfl rfl [(9, .int .i64 x5316), (21, .bool (decide (a1 < x5316)))] rfl hb5377 (fun ac hA => y_move hA rfl rfl) rfl, puOn rfl rfl rfl rfl [(21, .bool (decide (a1 < x5316))), (28, .int .i64 x5316)] rfl hb5377 (fun ac hA => r_sub rfl (hA.ev rfl) (hA.ev rfl)) rfl, puOn rfl rfl rfl rfl [(21, .bool (decide (a1 < x5316))), (27, .slice A0 n0 c0), (29, .int .i64 (IntKind.i64.wrap (x5316 - 1)))] rfl hb5377 (fun ac hA => y_ia Tryz.underlying23 sz37 (hS.rd 0 rfl) h5382 hA rfl rfl rfl) rfl, puOn rfl rfl rfl rfl [(21, .bool (decide (a1 < x5316))), (30, .pointer (some (ea A0 ((IntKind.i64.wrap (x5316 - 1)).toNat * 5))))] rfl hb5377 (fun ac hA => y_lda (cs := [.int .u64 x5381.f0, .int .i64 x5381.f1, .int .i64 x5381.f2, str x5381.f3, .float .f64 x5381.f4]) Tryz.underlying37 sz37 (fun j u h => by rw [ea_add]; exact hc5383 _ _ h) hA rfl rfl rfl) rfl, trivial⟩ (by kernel_rfl) (by kernel_rfl) ⟨efOn rfl rfl rfl [(21, .bool (decide (a1 < x5316))), (22, .func (.func 34) #[] #[]), (26, .agg #[.int .u64 x5378.f0, .int .i64 x5378.f1, .int .i64 x5378.f2, str x5378.f3, .float .f64 x5378.f4]), (31, .agg #[.int .u64 x5381.f0, .int .i64 x5381.f1, .int .i64 x5381.f2, str x5381.f3, .float .f64 x5381.f4])] rfl hb5377 (fun ac hA K hK => ?_) rfl, trivial⟩
   obtain ⟨y5384, h5385, hF⟩ := bnd hF
   refine z_callv en34 hA (F_event_Sort_1 (L := own k37 37 A0 n0 c0 l5315 :: L) x5378 x5381 h5385 hS) (fun v w hR => ?_) rfl rfl rfl rfl
   obtain ⟨rfl, hS⟩ := hR
   refine hK _ [(15, .bool (decide (y5384 < 0))), (16, .bool (decide (y5384 < 0)))] _ rfl ?_
   refine dEnd [15, 16] (by kernel_rfl) ⟨puOn rfl rfl rfl rfl [(21, .bool (decide (a1 < x5316))), (32, .int .i64 y5384)] rfl hb5377 (fun ac hA => r_ltI rfl (hA.ev rfl) (hA.ev rfl)) rfl, pu rfl rfl [(21, .bool (decide (a1 < x5316))), (33, .bool (decide (y5384 < 0)))] (fun ac hA => y_pickt hb5377 hA rfl rfl rfl) rfl rfl, trivial⟩ ⟨by kernel_rfl, by kernel_rfl⟩ [(0, .slice A0 n0 c0), (1, .int .i64 a1), (2, .int .i64 a2), (3, .func (.func 34) #[] #[]), (8, .int .i64 x3627), (9, .int .i64 x5316), (22, .func (.func 34) #[] #[]), (23, .slice A0 n0 c0), (24, .int .i64 x5316), (26, .agg #[.int .u64 x5378.f0, .int .i64 x5378.f1, .int .i64 x5378.f2, str x5378.f3, .float .f64 x5378.f4]), (27, .slice A0 n0 c0), (28, .int .i64 x5316), (29, .int .i64 (IntKind.i64.wrap (x5316 - 1))), (31, .agg #[.int .u64 x5381.f0, .int .i64 x5381.f1, .int .i64 x5381.f2, str x5381.f3, .float .f64 x5381.f4]), (32, .int .i64 y5384), (33, .bool (decide (y5384 < 0))), (34, .bool (decide (y5384 < 0)))] rfl (fun ac hA => ?_)
   exact hj1 (decide (y5384 < 0)) hF ac w (hA.sub _ rfl) hS
  replace hF := iff' hb5377 hF
  refine ⟨[(0, .int .i64 x5316), (1, .int .i64 a1), (2, .bool (decide (a1 < x5316))), (3, .bool (decide (a1 < x5316))), (4, undef), (5, undef), (6, undef), (7, undef), (8, undef), (9, undef), (10, undef), (11, undef), (12, undef), (13, undef)], ?_⟩
  refine dEff [0, 1, 2, 3, 4, 5, 6, 7, 8, 9, 10, 11, 12, 13] [14] (by kernel_rfl) ⟨pu rfl rfl [(9, .int .i64 x5316)] (fun ac hA => y_move hA rfl rfl) rfl rfl, pu rfl rfl [(1, .int .i64 a1)] (fun ac hA => y_move hA rfl rfl) rfl rfl, pu rfl rfl [(18, .int .i64 x5316), (19, .int .i64 a1)] (fun ac hA => r_gtI rfl (hA.ev rfl) (hA.ev rfl)) rfl rfl, pu rfl rfl [(20, .bool (decide (a1 < x5316)))] (fun ac hA => y_move hA rfl rfl) rfl rfl, puOff rfl rfl rfl rfl [(3, .func (.func 34) #[] #[]), (21, .bool (decide (a1 < x5316)))] rfl hb5377 rfl, puOff rfl rfl rfl rfl [(0, .slice A0 n0 c0), (21, .bool (decide (a1 < x5316)))] rfl hb5377 rfl, puOff rfl rfl rfl rfl [(9, .int .i64 x5316), (21, .bool (decide (a1 < x5316)))] rfl hb5377 rfl, puOff rfl rfl rfl rfl [(21, .bool (decide (a1 < x5316))), (23, undef), (24, undef)] rfl hb5377 rfl, puOff rfl rfl rfl rfl [(21, .bool (decide (a1 < x5316))), (25, undef)] rfl hb5377 rfl, puOff rfl rfl rfl rfl [(0, .slice A0 n0 c0), (21, .bool (decide (a1 < x5316)))] rfl hb5377 rfl, puOff rfl rfl rfl rfl [(9, .int .i64 x5316), (21, .bool (decide (a1 < x5316)))] rfl hb5377 rfl, puOff rfl rfl rfl rfl [(21, .bool (decide (a1 < x5316))), (28, undef)] rfl hb5377 rfl, puOff rfl rfl rfl rfl [(21, .bool (decide (a1 < x5316))), (27, undef), (29, undef)] rfl hb5377 rfl, puOff rfl rfl rfl rfl [(21, .bool (decide (a1 < x5316))), (30, undef)] rfl hb5377 rfl, trivial⟩ (by kernel_rfl) (by kernel_rfl) ⟨?_, trivial⟩
  refine efOff rfl rfl rfl [(21, .bool (decide (a1 < x5316))), (22, undef), (26, undef), (31, undef)] rfl [(15, undef), (16, .bool false)] hb5377 rfl ?_ rfl
  refine dEnd [15, 16] (by kernel_rfl) ⟨puOff rfl rfl rfl rfl [(21, .bool (decide (a1 < x5316))), (32, undef)] rfl hb5377 rfl, pu rfl rfl [(21, .bool (decide (a1 < x5316))), (33, undef)] (fun ac hA => y_pickf hb5377 hA rfl rfl rfl) rfl rfl, trivial⟩ ⟨by kernel_rfl, by kernel_rfl⟩ [(0, .slice A0 n0 c0), (1, .int .i64 a1), (2, .int .i64 a2), (3, .func (.func 34) #[] #[]), (8, .int .i64 x3627), (9, .int .i64 x5316), (34, .bool false)] rfl (fun ac hA => ?_)
  exact hj1 false hF ac w (hA.sub _ rfl) hS
 replace hF := iff' hb4512 hF
 refine wp_exit ?_
 cases hF
 exact hx4508_0 l3626 (T4508_ _ rfl) ac w (hA.sub _ rfl) hS
theorem F_slices_stableCmpFunc_api_Event {r : World} {L : List HP} {w : World} (a0 : (List S37)) (a1 : Int) (A0 : Option Addr) (n0 : Nat) (c0 : Nat) {y : ((List S37))} (hF : slices_stableCmpFunc_api_Event a0 a1 = some y) (hS : SH r (own k37 37 A0 n0 c0 a0 :: L) w) :
  Ret Tryz.prog 62 #[.slice A0 n0 c0, .int .i64 a1, .func (.func 34) #[] #[]] w fun v w' => v = .tuple #[] ∧ SH r (own k37 37 A0 n0 c0 y :: L) w' := by
 refine enter Tryz.func62 rfl Tryz.ntmps62 [(0, .slice A0 n0 c0), (1, .int .i64 a1), (2, .func (.func 34) #[] #[])] rfl (by simp) ?_
 intro ac hA Qf hQ hQn
 unfold slices_stableCmpFunc_api_Event at hF
 refine ws fun K101 hK101 => ?_
 refine x_m hA rfl fun ac hA => ?_
 refine wn (hK101 _ _ ?_)
 refine ws fun K102 hK102 => ?_
 refine x_m hA rfl fun ac hA => ?_
 refine x_m hA rfl fun ac hA => ?_
 refine x_m hA rfl fun ac hA => ?_
 refine wn (hK102 _ _ ?_)
 refine wp_seq_k fun K103 hK103 => ?_
 refine wp_block_k fun Kx180 hKx180 => ?_
 have hb1 : ∀ (l217 : (List S37)) (x218 : Int), slices_stableCmpFunc_api_Event_b1 a1 l217 x218 = some y → ∀ (ac : Act) (w : World), FR 63 [] ac [(0, .slice A0 n0 c0), (1, .int .i64 a1), (2, .func (.func 34) #[] #[]), (6, .int .i64 20), (7, .int .i64 x218)] → SH r (own k37 37 A0 n0 c0 l217 :: L) w → Kx180 ac w := by
  intro l217 x218 hF ac w hA hS
  unfold slices_stableCmpFunc_api_Event_b1 at hF
  refine hKx180 _ _ ?_
  refine hK103 _ _ ?_
  refine ws fun K219 hK219 => ?_
  refine x_m hA rfl fun ac hA => ?_
  refine x_m hA rfl fun ac hA => ?_
  refine x_m hA rfl fun ac hA => ?_
  refine x_m hA rfl fun ac hA => ?_
  obtain ⟨y220, h221, hF⟩ := bnd hF
  refine x_call en80 hA (F_slices_insertionSortCmpFunc_api_Event (L := L) l217 x218 a1 A0 n0 c0 h221 hS) (fun v ac w hR hA => ?_) rfl rfl rfl rfl rfl
  obtain ⟨rfl, hS⟩ := hR
  refine wn (hK219 _ _ ?_)
  refine wp_block_k fun Kx222 hKx222 => ?_
  have hb2 : ∀ (l744 : (List S37)), slices_stableCmpFunc_api_Event_b2 l744 = some y → ∀ (ac : Act) (w : World), FR 63 [] ac [(0, .slice A0 n0 c0), (2, .func (.func 34) #[] #[])] → SH r (own k37 37 A0 n0 c0 l744 :: L) w → Kx222 ac w := by
   intro l744 hF ac w hA hS
   unfold slices_stableCmpFunc_api_Event_b2 at hF
   refine hKx222 _ _ ?_
   cases hF
   refine hQn _ _ ?_
   refine lv0n Tryz.results62 hA ?_
   exact ⟨rfl, hS⟩
  obtain ⟨t1093, hl1093, hF⟩ := bnd hF
  have hx1093_2 : ∀ (l1093 : (List S37)), (l1093) = t1093 → ∀ (ac : Act) (w : World), FR 63 [] ac [(0, .slice A0 n0 c0), (2, .func (.func 34) #[] #[])] → SH r (own k37 37 A0 n0 c0 l1093 :: L) w → Kx222 ac w := by
   intro l1093 ht ac w hA hS
   subst ht
   replace hF : slices_stableCmpFunc_api_Event_x1_2 l1093 = some y := hF
   unfold slices_stableCmpFunc_api_Event_x1_2 at hF
   exact hb2 l1093 hF ac w (hA.sub _ rfl) hS
  refine wp_loop_fn hl1093 (fun s ac w => FR 63 [] ac [(0, .slice A0 n0 c0), (1, .int .i64 a1), (2, .func (.func 34) #[] #[]), (6, .int .i64 s.2)] ∧ SH r (own k37 37 A0 n0 c0 s.1 :: L) w) ⟨hA.sub _ rfl, hS⟩ ?_
  intro N1093 s1093 o1093 hF N1093_ T1093_ ac w hLab
  obtain ⟨l918, x919⟩ := s1093
  replace hF : slices_stableCmpFunc_api_Event_l1 a1 l918 x919 = some o1093 := hF
  unfold slices_stableCmpFunc_api_Event_l1 at hF
  try dsimp only at hLab
  obtain ⟨hA, hS⟩ := hLab
  refine wp_seq_k fun K1095 hK1095 => ?_
  refine ws fun K1096 hK1096 => ?_
  refine x_m hA rfl fun ac hA => ?_
  refine x_m hA rfl fun ac hA => ?_
  refine x_v hA (r_ltI rfl (hA.ev rfl) (hA.ev rfl)) rfl fun ac hA => ?_
  refine wn (hK1096 _ _ ?_)
  refine c_if hA rfl (fun hb1097 => ?_) fun hb1097 => ?_
  ·replace hF := ift hb1097 hF
   refine wp_skip ?_
   refine hK1095 _ _ ?_
   refine wp_block_k fun Kx1098 hKx1098 => ?_
   refine ws fun K1099 hK1099 => ?_
   refine x_m hA rfl fun ac hA => ?_
   refine x_v hA (r_mul rfl (hA.ev rfl) (hA.ev rfl)) rfl fun ac hA => ?_
   refine x_m hA rfl fun ac hA => ?_
   refine x_m hA rfl fun ac hA => ?_
   refine wn (hK1099 _ _ ?_)
   refine wp_seq_k fun K1100 hK1100 => ?_
   refine wp_block_k fun Kx1177 hKx1177 => ?_
   have hb3 : ∀ (l1214 : (List S37)) (x1215 : Int), slices_stableCmpFunc_api_Event_b3 a1 x919 l1214 x1215 = some o1093 → ∀ (ac : Act) (w : World), FR 63 [] ac [(0, .slice A0 n0 c0), (1, .int .i64 a1), (2, .func (.func 34) #[] #[]), (6, .int .i64 x919), (7, .int .i64 x1215)] → SH r (own k37 37 A0 n0 c0 l1214 :: L) w → Kx1177 ac w := by
    intro l1214 x1215 hF ac w hA hS
    unfold slices_stableCmpFunc_api_Event_b3 at hF
    refine hKx1177 _ _ ?_
    refine hK1100 _ _ ?_
    refine wp_seq_k fun K1216 hK1216 => ?_
    have hj1 : ∀ (l1222 : (List S37)), slices_stableCmpFunc_api_Event_j1 x919 l1222 = some o1093 → ∀ (ac : Act) (w : World), FR 63 [] ac [(0, .slice A0 n0 c0), (1, .int .i64 a1), (2, .func (.func 34) #[] #[]), (6, .int .i64 x919)] → SH r (own k37 37 A0 n0 c0 l1222 :: L) w → K1216 ac w := by
     intro l1222 hF ac w hA hS
     unfold slices_stableCmpFunc_api_Event_j1 at hF
     refine hK1216 _ _ ?_
     refine wp_reg ?_
     refine x_m hA rfl fun ac hA => ?_
     refine x_v hA (r_mul rfl (hA.ev rfl) (hA.ev rfl)) rfl fun ac hA => ?_
     refine x_m hA rfl fun ac hA => ?_
     refine wpList_nil ?_
     refine hKx1098 _ _ ?_
     cases hF
     exact ⟨_, N1093_ _ rfl, hA.sub _ rfl, hS⟩
    refine ws fun K1223 hK1223 => ?_
    refine x_m hA rfl fun ac hA => ?_
    refine x_m hA rfl fun ac hA => ?_
    refine x_v hA (r_add rfl (hA.ev rfl) (hA.ev rfl)) rfl fun ac hA => ?_
    refine x_m hA rfl fun ac hA => ?_
    refine wn (hK1223 _ _ ?_)
    refine ws fun K1224 hK1224 => ?_
    refine x_m hA rfl fun ac hA => ?_
    refine x_m hA rfl fun ac hA => ?_
    refine x_v hA (r_ltI rfl (hA.ev rfl) (hA.ev rfl)) rfl fun ac hA => ?_
    refine wn (hK1224 _ _ ?_)
    refine c_if hA rfl (fun hb1225 => ?_) fun hb1225 => ?_
    ·replace hF := ift hb1225 hF
     refine wp_reg ?_
     refine x_m hA rfl fun ac hA => ?_
     refine x_m hA rfl fun ac hA => ?_
     refine x_m hA rfl fun ac hA => ?_
     refine x_m hA rfl fun ac hA => ?_
     refine x_m hA rfl fun ac hA => ?_
     obtain ⟨y1226, h1227, hF⟩ := bnd hF
     refine x_call en81 hA (F_slices_symMergeCmpFunc_api_Event (L := L) l1214 x1215 (IntKind.i64.wrap (x1215 + x919)) a1 A0 n0 c0 h1227 hS) (fun v ac w hR hA => ?_) rfl rfl rfl rfl rfl
     obtain ⟨rfl, hS⟩ := hR
     refine wpList_nil ?_
     exact hj1 y1226 hF ac w (hA.sub _ rfl) hS
    replace hF := iff' hb1225 hF
    refine wp_skip ?_
    exact hj1 l1214 hF ac w (hA.sub _ rfl) hS
   obtain ⟨t1254, hl1254, hF⟩ := bnd hF
   have hx1254_4 : ∀ (l1253 : (List S37)) (x1254 : Int), (l1253, x1254) = t1254 → ∀ (ac : Act) (w : World), FR 63 [] ac [(0, .slice A0 n0 c0), (1, .int .i64 a1), (2, .func (.func 34) #[] #[]), (6, .int .i64 x919), (7, .int .i64 x1254)] → SH r (own k37 37 A0 n0 c0 l1253 :: L) w → Kx1177 ac w := by
    intro l1253 x1254 ht ac w hA hS
    subst ht
    replace hF : slices_stableCmpFunc_api_Event_x2_4 a1 x919 l1253 x1254 = some o1093 := hF
    unfold slices_stableCmpFunc_api_Event_x2_4 at hF
    exact hb3 l1253 x1254 hF ac w (hA.sub _ rfl) hS
   refine wp_loop_fn hl1254 (fun s ac w => FR 63 [] ac [(0, .slice A0 n0 c0), (1, .int .i64 a1), (2, .func (.func 34) #[] #[]), (6, .int .i64 x919), (7, .int .i64 s.2.1), (8, .int .i64 s.2.2)] ∧ SH r (own k37 37 A0 n0 c0 s.1 :: L) w) ⟨hA.sub _ rfl, hS⟩ ?_
   intro N1254 s1254 o1254 hF N1254_ T1254_ ac w hLab
   obtain ⟨l1239, x1240, x1241⟩ := s1254
   replace hF : slices_stableCmpFunc_api_Event_l2 a1 x919 l1239 x1240 x1241 = some o1254 := hF
   unfold slices_stableCmpFunc_api_Event_l2 at hF
   try dsimp only at hLab
   obtain ⟨hA, hS⟩ := hLab
   refine wp_seq_k fun K1256 hK1256 => ?_
   refine ws fun K1257 hK1257 => ?_
   refine x_m hA rfl fun ac hA => ?_
   refine x_m hA rfl fun ac hA => ?_
   refine x_v hA (r_leI rfl (hA.ev rfl) (hA.ev rfl)) rfl fun ac hA => ?_
   refine wn (hK1257 _ _ ?_)
   refine c_if hA rfl (fun hb1258 => ?_) fun hb1258 => ?_
   ·replace hF := ift hb1258 hF
    refine wp_skip ?_
    refine hK1256 _ _ ?_
    refine wp_block_k fun Kx1259 hKx1259 => ?_
    refine ws fun K1260 hK1260 => ?_
    refine x_m hA rfl fun ac hA => ?_
    refine x_m hA rfl fun ac hA => ?_
    refine x_m hA rfl fun ac hA => ?_
    refine x_m hA rfl fun ac hA => ?_
    refine x_v hA (r_add rfl (hA.ev rfl) (hA.ev rfl)) rfl fun ac hA => ?_
    refine x_m hA rfl fun ac hA => ?_
    refine x_m hA rfl fun ac hA => ?_
    obtain ⟨y1261, h1262, hF⟩ := bnd hF
    refine x_call en81 hA (F_slices_symMergeCmpFunc_api_Event (L := L) l1239 x1240 (IntKind.i64.wrap (x1240 + x919)) x1241 A0 n0 c0 h1262 hS) (fun v ac w hR hA => ?_) rfl rfl rfl rfl rfl
    obtain ⟨rfl, hS⟩ := hR
    refine wn (hK1260 _ _ ?_)
    refine ws fun K1263 hK1263 => ?_
    refine x_m hA rfl fun ac hA => ?_
    refine x_m hA rfl fun ac hA => ?_
    refine wn (hK1263 _ _ ?_)
    refine wp_reg ?_
    refine x_m hA rfl fun ac hA => ?_
    refine x_m hA rfl fun ac hA => ?_
    refine x_v hA (r_mul rfl (hA.ev rfl) (hA.ev rfl)) rfl fun ac hA => ?_
    refine x_v hA (r_add rfl (hA.ev rfl) (hA.ev rfl)) rfl fun ac hA => ?_
    refine x_m hA rfl fun ac hA => ?_
    refine wpList_nil ?_
    refine hKx1259 _ _ ?_
    cases hF
    exact ⟨_, N1254_ _ rfl, hA.sub _ rfl, hS⟩
   replace hF := iff' hb1258 hF
   refine wp_exit ?_
   cases hF
   exact hx1254_4 l1239 x1240 (T1254_ _ rfl) ac w (hA.sub _ rfl) hS
  replace hF := iff' hb1097 hF
  refine wp_exit ?_
  cases hF
  exact hx1093_2 l918 (T1093_ _ rfl) ac w (hA.sub _ rfl) hS
 obtain ⟨t1290, hl1290, hF⟩ := bnd hF
 have hx1290_0 : ∀ (l1289 : (List S37)) (x1290 : Int), (l1289, x1290) = t1290 → ∀ (ac : Act) (w : World), FR 63 [] ac [(0, .slice A0 n0 c0), (1, .int .i64 a1), (2, .func (.func 34) #[] #[]), (6, .int .i64 20), (7, .int .i64 x1290)] → SH r (own k37 37 A0 n0 c0 l1289 :: L) w → Kx180 ac w := by
  intro l1289 x1290 ht ac w hA hS
  subst ht
  replace hF : slices_stableCmpFunc_api_Event_x3_0 a1 l1289 x1290 = some y := hF
  unfold slices_stableCmpFunc_api_Event_x3_0 at hF
  exact hb1 l1289 x1290 hF ac w (hA.sub _ rfl) hS
 refine wp_loop_fn hl1290 (fun s ac w => FR 63 [] ac [(0, .slice A0 n0 c0), (1, .int .i64 a1), (2, .func (.func 34) #[] #[]), (6, .int .i64 20), (7, .int .i64 s.2.1), (8, .int .i64 s.2.2)] ∧ SH r (own k37 37 A0 n0 c0 s.1 :: L) w) ⟨hA.sub _ rfl, hS⟩ ?_
 intro N1290 s1290 o1290 hF N1290_ T1290_ ac w hLab
 obtain ⟨l1275, x1276, x1277⟩ := s1290
 replace hF : slices_stableCmpFunc_api_Event_l3 a1 l1275 x1276 x1277 = some o1290 := hF
 unfold slices_stableCmpFunc_api_Event_l3 at hF
 try dsimp only at hLab
 obtain ⟨hA, hS⟩ := hLab
 refine wp_seq_k fun K1292 hK1292 => ?_
 refine ws fun K1293 hK1293 => ?_
 refine x_m hA rfl fun ac hA => ?_
 refine x_m hA rfl fun ac hA => ?_
 refine x_v hA (r_leI rfl (hA.ev rfl) (hA.ev rfl)) rfl fun ac hA => ?_
 refine wn (hK1293 _ _ ?_)
 refine c_if hA rfl (fun hb1294 => ?_) fun hb1294 => ?_
 ·replace hF := ift hb1294 hF
  refine wp_skip ?_
  refine hK1292 _ _ ?_
  refine wp_block_k fun Kx1295 hKx1295 => ?_
  refine ws fun K1296 hK1296 => ?_
  refine x_m hA rfl fun ac hA => ?_
  refine x_m hA rfl fun ac hA => ?_
  refine x_m hA rfl fun ac hA => ?_
  refine x_m hA rfl fun ac hA => ?_
  obtain ⟨y1297, h1298, hF⟩ := bnd hF
  refine x_call en80 hA (F_slices_insertionSortCmpFunc_api_Event (L := L) l1275 x1276 x1277 A0 n0 c0 h1298 hS) (fun v ac w hR hA => ?_) rfl rfl rfl rfl rfl
  obtain ⟨rfl, hS⟩ := hR
  refine wn (hK1296 _ _ ?_)
  refine ws fun K1299 hK1299 => ?_
  refine x_m hA rfl fun ac hA => ?_
  refine x_m hA rfl fun ac hA => ?_
  refine wn (hK1299 _ _ ?_)
  refine wp_reg ?_
  refine x_m hA rfl fun ac hA => ?_
  refine x_m hA rfl fun ac hA => ?_
  refine x_v hA (r_add rfl (hA.ev rfl) (hA.ev rfl)) rfl fun ac hA => ?_
  refine x_m hA rfl fun ac hA => ?_
  refine wpList_nil ?_
  refine hKx1295 _ _ ?_
  cases hF
  exact ⟨_, N1290_ _ rfl, hA.sub _ rfl, hS⟩
 replace hF := iff' hb1294 hF
 refine wp_exit ?_
 cases hF
 exact hx1290_0 l1275 x1276 (T1290_ _ rfl) ac w (hA.sub _ rfl) hS
theorem F_slices_SortStableFunc_api_Event_api_Event {r : World} {L : List HP} {w : World} (a0 : (List S37)) (A0 : Option Addr) (n0 : Nat) (c0 : Nat) {y : ((List S37))} (hF : slices_SortStableFunc_api_Event_api_Event a0 = some y) (hS : SH r (own k37 37 A0 n0 c0 a0 :: L) w) :
  Ret Tryz.prog 33 #[.slice A0 n0 c0, .func (.func 34) #[] #[]] w fun v w' => v = .tuple #[] ∧ SH r (own k37 37 A0 n0 c0 y :: L) w' := by
 refine enter Tryz.func33 rfl Tryz.ntmps33 [(0, .slice A0 n0 c0), (1, .func (.func 34) #[] #[])] rfl (by simp) ?_
 intro ac hA Qf hQ hQn
 unfold slices_SortStableFunc_api_Event_api_Event at hF
 refine wp_reg ?_
 refine x_m hA rfl fun ac hA => ?_
 refine x_m hA rfl fun ac hA => ?_
 refine x_len Tryz.underlying23 (hS.rd 0 rfl).2.1 hA (fun ac hA => ?_) rfl rfl rfl rfl rfl
 refine x_m hA rfl fun ac hA => ?_
 obtain ⟨y101, h102, hF⟩ := bnd hF
 refine x_call en62 hA (F_slices_stableCmpFunc_api_Event (L := L) a0 (a0.length : Int) A0 n0 c0 h102 hS) (fun v ac w hR hA => ?_) rfl rfl rfl rfl rfl
 obtain ⟨rfl, hS⟩ := hR
 refine wpList_nil ?_
 cases hF
 refine hQn _ _ ?_
 refine lv0n Tryz.results33 hA ?_
 exact ⟨rfl, hS⟩
theorem F_event_Sort {r : World} {L : List HP} {w : World} (a0 : (List S37)) (A0 : Option Addr) (n0 : Nat) (c0 : Nat) {y : ((List S37))} (hF : event_Sort a0 = some y) (ha0 : RdL L k37 A0 n0 c0 a0) (hS : SH r (L) w) :
  Ret Tryz.prog 10 #[.slice A0 n0 c0] w fun v w' => ∃ (B0 : Option Addr) (m0 : Nat) (d0 : Nat), v = .slice B0 m0 d0 ∧ SH r (own k37 37 B0 m0 d0 y :: L) w' := by
 refine enter Tryz.func10 rfl Tryz.ntmps10 [(0, .slice A0 n0 c0)] rfl (by simp) ?_
 intro ac hA Qf hQ hQn
 unfold event_Sort at hF
 refine ws fun K101 hK101 => ?_
 refine x_m hA rfl fun ac hA => ?_
 refine wn (hK101 _ _ ?_)
 refine ws fun K102 hK102 => ?_
 refine x_m hA rfl fun ac hA => ?_
 obtain ⟨y103, h104, hF⟩ := bnd hF
 refine x_call en32 hA (F_slices_Clone_api_Event_api_Event (L := L) a0 A0 n0 c0 h104 (RdL.sfx 0 rfl ha0) hS) (fun v ac w hR hA => ?_) rfl rfl rfl rfl rfl
 obtain ⟨B105, m106, d107, rfl, hS⟩ := hR
 refine x_m hA rfl fun ac hA => ?_
 refine wn (hK102 _ _ ?_)
 refine ws fun K108 hK108 => ?_
 refine x_m hA rfl fun ac hA => ?_
 obtain ⟨y109, h110, hF⟩ := bnd hF
 refine x_call en33 hA (F_slices_SortStableFunc_api_Event_api_Event (L := L) y103 B105 m106 d107 h110 hS) (fun v ac w hR hA => ?_) rfl rfl rfl rfl rfl
 obtain ⟨rfl, hS⟩ := hR
 refine wn (hK108 _ _ ?_)
 refine ws fun K111 hK111 => ?_
 refine x_m hA rfl fun ac hA => ?_
 refine x_m hA rfl fun ac hA => ?_
 refine wn (hK111 _ _ ?_)
 refine wp_ret ?_
 cases hF
 refine hQ _ _ ?_
 refine lv Tryz.results10 hA rfl ?_
 exact ⟨B105, m106, d107, rfl, hS⟩
theorem F_law06_awake {r : World} {L : List HP} {w : World} {y : (Bool)} (hF : law06_awake = some y) (hS : SH r (L) w) :
  Ret Tryz.prog 4 #[] w fun v w' => v = .bool y ∧ SH r (L) w' := by
 refine enter Tryz.func4 rfl Tryz.ntmps4 [] rfl (by simp) ?_
 intro ac hA Qf hQ hQn
 unfold law06_awake at hF
 refine ws fun K101 hK101 => ?_
 refine x_m hA rfl fun ac hA => ?_
 refine wn (hK101 _ _ ?_)
 refine ws fun K102 hK102 => ?_
 refine x_v (v := .agg #[.int .u64 0, .int .i64 0, .int .i64 1, str [98], .float .f64 0]) hA (r_build (ps := #[(3, str [98]), (2, .int .i64 1)]) rfl (mapev2 hA rfl) (fun w => by kernel_rfl)) rfl fun ac hA => ?_
 refine x_v (v := .agg #[.int .u64 0, .int .i64 0, .int .i64 2, str [97], .float .f64 0]) hA (r_build (ps := #[(3, str [97]), (2, .int .i64 2)]) rfl (mapev2 hA rfl) (fun w => by kernel_rfl)) rfl fun ac hA => ?_
 refine x_v (v := .agg #[.int .u64 0, .int .i64 0, .int .i64 1, str [97], .float .f64 0]) hA (r_build (ps := #[(3, str [97]), (2, .int .i64 1)]) rfl (mapev2 hA rfl) (fun w => by kernel_rfl)) rfl fun ac hA => ?_
 refine x_bsl (d := k37) (e := 37) (ps := #[(0, .agg #[.int .u64 0, .int .i64 0, .int .i64 1, str [98], .float .f64 0]), (1, .agg #[.int .u64 0, .int .i64 0, .int .i64 2, str [97], .float .f64 0]), (2, .agg #[.int .u64 0, .int .i64 0, .int .i64 1, str [97], .float .f64 0])]) (cells := [.int .u64 0, .int .i64 0, .int .i64 1, str [98], .float .f64 0, .int .u64 0, .int .i64 0, .int .i64 2, str [97], .float .f64 0, .int .u64 0, .int .i64 0, .int .i64 1, str [97], .float .f64 0]) (xs := [(⟨0, 0, 1, [98], 0⟩ : S37), (⟨0, 0, 2, [97], 0⟩ : S37), (⟨0, 0, 1, [97], 0⟩ : S37)]) (fun w => by kernel_rfl) rfl ⟨[.int .u64 0, .int .i64 0, .int .i64 1, str [98], .float .f64 0], _, rfl, rfl, ⟨[.int .u64 0, .int .i64 0, .int .i64 2, str [97], .float .f64 0], _, rfl, rfl, ⟨[.int .u64 0, .int .i64 0, .int .i64 1, str [97], .float .f64 0], _, rfl, rfl, rfl⟩⟩⟩ hA hS (fun g103 ac w hS hA => ?_) rfl rfl rfl rfl rfl rfl
 obtain ⟨y104, h105, hF⟩ := bnd hF
 refine x_call en10 hA (F_event_Sort (L := own k37 37 (some ⟨g103, 0, none⟩) 3 3 [(⟨0, 0, 1, [98], 0⟩ : S37), (⟨0, 0, 2, [97], 0⟩ : S37), (⟨0, 0, 1, [97], 0⟩ : S37)] :: L) [(⟨0, 0, 1, [98], 0⟩ : S37), (⟨0, 0, 2, [97], 0⟩ : S37), (⟨0, 0, 1, [97], 0⟩ : S37)] (some ⟨g103, 0, none⟩) 3 3 h105 (RdL.own 0 rfl (hS.dropN 0)) hS) (fun v ac w hR hA => ?_) rfl rfl rfl rfl rfl
 obtain ⟨B106, m107, d108, rfl, hS⟩ := hR
 refine x_m hA rfl fun ac hA => ?_
 refine wn (hK102 _ _ ?_)
 refine ws fun K109 hK109 => ?_
 refine x_m hA rfl fun ac hA => ?_
 refine x_len Tryz.underlying23 (hS.rd 0 rfl).2.1 hA (fun ac hA => ?_) rfl rfl rfl rfl rfl
 refine x_v hA (r_eqI rfl (hA.ev rfl) (hA.ev rfl)) rfl fun ac hA => ?_
 refine x_m hA rfl fun ac hA => ?_
 refine bcase (b := (y104.length : Int) == 3) (fun hb110 => ?_) fun hb110 => ?_
 ·replace hF := ift hb110 hF
  refine x_on hb110 hA ?_ rfl rfl rfl
  refine x_m hA rfl fun ac hA => ?_
  refine x_on hb110 hA ?_ rfl rfl rfl
  obtain ⟨x111, h112, hF⟩ := bnd hF
  refine x_ia Tryz.underlying23 sz37 (hS.rd 0 rfl) h112 hA (fun ac hA => ?_) rfl rfl rfl rfl rfl rfl
  refine x_on hb110 hA ?_ rfl rfl rfl
  refine x_fae (m := (0 : Int).toNat * 5) fa37_3 hA (fun ac hA => ?_) rfl rfl rfl rfl rfl
  refine x_on hb110 hA ?_ rfl rfl rfl
  obtain ⟨cs, hV, hc113⟩ := el (hS.rd 0 rfl) h112
  obtain rfl := hV
  refine x_ld Tryz.underlying9 (hc113 3 _ rfl) hA (fun ac hA => ?_) rfl rfl rfl rfl rfl rfl
  refine x_on hb110 hA ?_ rfl rfl rfl
  refine x_v hA (r_eqS rfl (hA.ev rfl) (hA.ev rfl)) rfl fun ac hA => ?_
  refine x_pickt hb110 hA (fun ac hA => ?_) rfl rfl rfl rfl rfl rfl
  refine x_m hA rfl fun ac hA => ?_
  refine bcase (b := x111.f3 == [97]) (fun hb114 => ?_) fun hb114 => ?_
  ·replace hF := ift hb114 hF
   refine x_on hb114 hA ?_ rfl rfl rfl
   refine x_m hA rfl fun ac hA => ?_
   refine x_on hb114 hA ?_ rfl rfl rfl
   refine x_ia Tryz.underlying23 sz37 (hS.rd 0 rfl) h112 hA (fun ac hA => ?_) rfl rfl rfl rfl rfl rfl
   refine x_on hb114 hA ?_ rfl rfl rfl
   refine x_fae (m := (0 : Int).toNat * 5) fa37_2 hA (fun ac hA => ?_) rfl rfl rfl rfl rfl
   refine x_on hb114 hA ?_ rfl rfl rfl
   obtain ⟨cs, hV, hc115⟩ := el (hS.rd 0 rfl) h112
   obtain rfl := hV
   refine x_ld Tryz.underlying2 (hc115 2 _ rfl) hA (fun ac hA => ?_) rfl rfl rfl rfl rfl rfl
   refine x_on hb114 hA ?_ rfl rfl rfl
   refine x_v hA (r_eqI rfl (hA.ev rfl) (hA.ev rfl)) rfl fun ac hA => ?_
   refine x_pickt hb114 hA (fun ac hA => ?_) rfl rfl rfl rfl rfl rfl
   refine x_m hA rfl fun ac hA => ?_
   refine bcase (b := x111.f2 == 1) (fun hb116 => ?_) fun hb116 => ?_
   ·replace hF := ift hb116 hF
    refine x_on hb116 hA ?_ rfl rfl rfl
    refine x_m hA rfl fun ac hA => ?_
    refine x_on hb116 hA ?_ rfl rfl rfl
    obtain ⟨x117, h118, hF⟩ := bnd hF
    refine x_ia Tryz.underlying23 sz37 (hS.rd 0 rfl) h118 hA (fun ac hA => ?_) rfl rfl rfl rfl rfl rfl
    refine x_on hb116 hA ?_ rfl rfl rfl
    refine x_fae (m := (2 : Int).toNat * 5) fa37_3 hA (fun ac hA => ?_) rfl rfl rfl rfl rfl
    refine x_on hb116 hA ?_ rfl rfl rfl
    obtain ⟨cs, hV, hc119⟩ := el (hS.rd 0 rfl) h118
    obtain rfl := hV
    refine x_ld Tryz.underlying9 (hc119 3 _ rfl) hA (fun ac hA => ?_) rfl rfl rfl rfl rfl rfl
    refine x_on hb116 hA ?_ rfl rfl rfl
    refine x_v hA (r_eqS rfl (hA.ev rfl) (hA.ev rfl)) rfl fun ac hA => ?_
    refine x_pickt hb116 hA (fun ac hA => ?_) rfl rfl rfl rfl rfl rfl
    refine x_m hA rfl fun ac hA => ?_
    refine bcase (b := x117.f3 == [98]) (fun hb120 => ?_) fun hb120 => ?_
    ·replace hF := ift hb120 hF
     refine x_pickt hb120 hA (fun ac hA => ?_) rfl rfl rfl rfl rfl rfl
     refine x_m hA rfl fun ac hA => ?_
     refine wn (hK109 _ _ ?_)
     refine wp_ret ?_
     replace hS := hS.drop 0
     replace hS := hS.drop 0
     cases hF
     refine hQ _ _ ?_
     refine lv Tryz.results4 hA rfl ?_
     exact ⟨rfl, hS⟩
    replace hF := iff' hb120 hF
    refine x_pickf hb120 hA (fun ac hA => ?_) rfl rfl rfl rfl rfl rfl
    refine x_m hA rfl fun ac hA => ?_
    refine wn (hK109 _ _ ?_)
    refine wp_ret ?_
    replace hS := hS.drop 0
    replace hS := hS.drop 0
    cases hF
    refine hQ _ _ ?_
    refine lv Tryz.results4 hA rfl ?_
    exact ⟨rfl, hS⟩
   replace hF := iff' hb116 hF
   refine x_off hb116 hA (fun ac hA => ?_) rfl rfl rfl rfl rfl
   refine x_off hb116 hA (fun ac hA => ?_) rfl rfl rfl rfl rfl
   refine x_off hb116 hA (fun ac hA => ?_) rfl rfl rfl rfl rfl
   refine x_off hb116 hA (fun ac hA => ?_) rfl rfl rfl rfl rfl
   refine x_off hb116 hA (fun ac hA => ?_) rfl rfl rfl rfl rfl
   refine x_pickf hb116 hA (fun ac hA => ?_) rfl rfl rfl rfl rfl rfl
   refine x_m hA rfl fun ac hA => ?_
   refine x_pickf rfl hA (fun ac hA => ?_) rfl rfl rfl rfl rfl rfl
   refine x_m hA rfl fun ac hA => ?_
   refine wn (hK109 _ _ ?_)
   refine wp_ret ?_
   replace hS := hS.drop 0
   replace hS := hS.drop 0
   cases hF
   refine hQ _ _ ?_
   refine lv Tryz.results4 hA rfl ?_
   exact ⟨rfl, hS⟩
  replace hF := iff' hb114 hF
  refine x_off hb114 hA (fun ac hA => ?_) rfl rfl rfl rfl rfl
  refine x_off hb114 hA (fun ac hA => ?_) rfl rfl rfl rfl rfl
  refine x_off hb114 hA (fun ac hA => ?_) rfl rfl rfl rfl rfl
  refine x_off hb114 hA (fun ac hA => ?_) rfl rfl rfl rfl rfl
  refine x_off hb114 hA (fun ac hA => ?_) rfl rfl rfl rfl rfl
  refine x_pickf hb114 hA (fun ac hA => ?_) rfl rfl rfl rfl rfl rfl
  refine x_m hA rfl fun ac hA => ?_
  refine x_off rfl hA (fun ac hA => ?_) rfl rfl rfl rfl rfl
  refine x_off rfl hA (fun ac hA => ?_) rfl rfl rfl rfl rfl
  refine x_off rfl hA (fun ac hA => ?_) rfl rfl rfl rfl rfl
  refine x_off rfl hA (fun ac hA => ?_) rfl rfl rfl rfl rfl
  refine x_off rfl hA (fun ac hA => ?_) rfl rfl rfl rfl rfl
  refine x_pickf rfl hA (fun ac hA => ?_) rfl rfl rfl rfl rfl rfl
  refine x_m hA rfl fun ac hA => ?_
  refine x_pickf rfl hA (fun ac hA => ?_) rfl rfl rfl rfl rfl rfl
  refine x_m hA rfl fun ac hA => ?_
  refine wn (hK109 _ _ ?_)
  refine wp_ret ?_
  replace hS := hS.drop 0
  replace hS := hS.drop 0
  cases hF
  refine hQ _ _ ?_
  refine lv Tryz.results4 hA rfl ?_
  exact ⟨rfl, hS⟩
 replace hF := iff' hb110 hF
 refine x_off hb110 hA (fun ac hA => ?_) rfl rfl rfl rfl rfl
 refine x_off hb110 hA (fun ac hA => ?_) rfl rfl rfl rfl rfl
 refine x_off hb110 hA (fun ac hA => ?_) rfl rfl rfl rfl rfl
 refine x_off hb110 hA (fun ac hA => ?_) rfl rfl rfl rfl rfl
 refine x_off hb110 hA (fun ac hA => ?_) rfl rfl rfl rfl rfl
 refine x_pickf hb110 hA (fun ac hA => ?_) rfl rfl rfl rfl rfl rfl
 refine x_m hA rfl fun ac hA => ?_
 refine x_off rfl hA (fun ac hA => ?_) rfl rfl rfl rfl rfl
 refine x_off rfl hA (fun ac hA => ?_) rfl rfl rfl rfl rfl
 refine x_off rfl hA (fun ac hA => ?_) rfl rfl rfl rfl rfl
 refine x_off rfl hA (fun ac hA => ?_) rfl rfl rfl rfl rfl
 refine x_off rfl hA (fun ac hA => ?_) rfl rfl rfl rfl rfl
 refine x_pickf rfl hA (fun ac hA => ?_) rfl rfl rfl rfl rfl rfl
 refine x_m hA rfl fun ac hA => ?_
 refine x_off rfl hA (fun ac hA => ?_) rfl rfl rfl rfl rfl
 refine x_off rfl hA (fun ac hA => ?_) rfl rfl rfl rfl rfl
 refine x_off rfl hA (fun ac hA => ?_) rfl rfl rfl rfl rfl
 refine x_off rfl hA (fun ac hA => ?_) rfl rfl rfl rfl rfl
 refine x_off rfl hA (fun ac hA => ?_) rfl rfl rfl rfl rfl
 refine x_pickf rfl hA (fun ac hA => ?_) rfl rfl rfl rfl rfl rfl
 refine x_m hA rfl fun ac hA => ?_
 refine x_pickf rfl hA (fun ac hA => ?_) rfl rfl rfl rfl rfl rfl
 refine x_m hA rfl fun ac hA => ?_
 refine wn (hK109 _ _ ?_)
 refine wp_ret ?_
 replace hS := hS.drop 0
 replace hS := hS.drop 0
 cases hF
 refine hQ _ _ ?_
 refine lv Tryz.results4 hA rfl ?_
 exact ⟨rfl, hS⟩
end Go.Proofs.YthokgnonmcgkcaaGreatDoor.M
namespace Go.Proofs.YthokgnonmcgkcaaGreatDoor.M
open Go Go.RowKit Go.Proofs.YthokgnonmcgkcaaGreatDoor.E
set_option linter.unusedVariables false
set_option linter.unusedSimpArgs false
noncomputable def page_Sum_b1 (x476 : Int) : Option (Int) :=
  some (ixor .u32 (IntKind.u32.max) x476)
noncomputable def page_Sum_x1_0 (x560 : Int) : Option (Int) :=
  page_Sum_b1 x560
noncomputable def page_Sum_l1 (a0 : (List Int)) (x518 : Int) (x519 : Int) : Option ((Int × Int) ⊕ ((Int))) :=
  if (decide (x519 < (a0.length : Int))) = true then ((at_ a0 x519).bind fun x568 => (ltt (IntKind.u32.wrap x568) fun x572 => (ltt (ixor .u32 x518 x572) fun x574 => (ltt (iand .u32 x574 15) fun x576 => ((at_ gl_page_table x576).bind fun x578 => (ltt (ishr .u32 x518 4) fun x581 => (ltt (ixor .u32 x578 x581) fun x583 => (ltt (ishr .u32 x572 4) fun x585 => (ltt (ixor .u32 x583 x585) fun x587 => (ltt (iand .u32 x587 15) fun x589 => ((at_ gl_page_table x589).bind fun x591 => (ltt (ishr .u32 x583 4) fun x594 => (ltt (ixor .u32 x591 x594) fun x596 => (ltt (IntKind.i64.wrap (x519 + 1)) fun x598 => (some (.inl (x596, x598))))))))))))))))) else (some (.inr (x518)))
noncomputable def page_Sum (a0 : (List Int)) : Option (Int) :=
  (loop (fun s => page_Sum_l1 a0 s.1 s.2) (4294967295, 0)).bind fun t => page_Sum_x1_0 t
noncomputable def page_number (a0 : (List Int)) : Option (Int) :=
  (at_ a0 0).bind fun x103 => (ltt (IntKind.u32.wrap x103) fun x106 => ((at_ a0 1).bind fun x108 => (ltt (IntKind.u32.wrap x108) fun x111 => (ltt (ishl .u32 x111 8) fun x113 => (ltt (ior .u32 x106 x113) fun x115 => ((at_ a0 2).bind fun x117 => (ltt (IntKind.u32.wrap x117) fun x120 => (ltt (ishl .u32 x120 16) fun x122 => (ltt (ior .u32 x115 x122) fun x124 => ((at_ a0 3).bind fun x126 => (ltt (IntKind.u32.wrap x126) fun x129 => (ltt (ishl .u32 x129 24) fun x131 => (ltt (ior .u32 x124 x131) fun x133 => (some x133))))))))))))))
noncomputable def slices_Clone_byte_byte (a0 : (List Int)) : Option ((List Int)) :=
  nilsplit (a0).isEmpty (some []) (chk (([] : List Int).length + a0.length ≤ 140737488355328 / 1) (some a0))
noncomputable def page_Read_j2 (a1 : Int) (l109 : (List Int)) (y121 : (Int)) (b130 : Bool) : Option (Int × (List Int) × Int × Int) :=
  if b130 = true then (some (0, [], 0, 3)) else (ltt (IntKind.i64.wrap y121) fun x134 => (ltt (IntKind.i64.wrap (5 + x134)) fun x136 => ((cut_ l109 0 x136).bind fun l140 => ((cut_ l109 x136 (l109.length : Int)).bind fun l147 => ((page_Sum l140).bind fun y154 => ((page_number l147).bind fun y156 => (if (y154 != y156) = true then (some (0, [], 0, 4)) else ((at_ l109 4).bind fun x161 => ((cut_ l109 5 x136).bind fun l164 => (ltt (IntKind.i64.wrap (a1 + x136)) fun x171 => (ltt (IntKind.i64.wrap (x171 + 4)) fun x173 => ((slices_Clone_byte_byte l164).bind fun y175 => (some (x161, y175, x173, 0))))))))))))))
noncomputable def page_Read_j1 (a0 : (List Int)) (a1 : Int) (b105 : Bool) : Option (Int × (List Int) × Int × Int) :=
  if b105 = true then (some (0, [], 0, 1)) else ((cut_ a0 a1 (a0.length : Int)).bind fun l109 => (if (decide ((l109.length : Int) < 9)) = true then (some (0, [], 0, 3)) else ((page_number l109).bind fun y121 => (if (decide (1048576 < y121)) = true then (page_Read_j2 a1 l109 y121 true) else (ltt (IntKind.i64.wrap y121) fun x182 => (ltt (IntKind.i64.wrap ((l109.length : Int) - 9)) fun x184 => (page_Read_j2 a1 l109 y121 (decide (x184 < x182)))))))))
noncomputable def page_Read (a0 : (List Int)) (a1 : Int) : Option (Int × (List Int) × Int × Int) :=
  if (decide (a1 < 0)) = true then (page_Read_j1 a0 a1 true) else (page_Read_j1 a0 a1 (decide ((a0.length : Int) < a1)))
end Go.Proofs.YthokgnonmcgkcaaGreatDoor.M
namespace Go.Proofs.YthokgnonmcgkcaaGreatDoor.M
open Go Go.RowKit Go.Proofs.YthokgnonmcgkcaaGreatDoor.E
set_option linter.unusedVariables false
set_option maxRecDepth 100000
set_option maxHeartbeats 4000000
set_option linter.unusedSimpArgs false
theorem F_page_Sum {r : World} {L : List HP} {w : World} {Z : Nat → Prop} {wz : World} (a0 : (List Int)) (A0 : Option Addr) (n0 : Nat) (c0 : Nat) {y : (Int)} (hF : page_Sum a0 = some y) (qz : Nat) (hZ : L[qz]? = some (zone Z wz)) (ha0 : RdL L (kI .u8) A0 n0 c0 a0) (hG0 : Imm Z wz (kI .u32) (some ⟨0, 0, none⟩) 16 16 gl_page_table) (hS : SH r (L) w) :
  Ret Tryz.prog 44 #[.slice A0 n0 c0] w fun v w' => v = .int .u32 y ∧ SH r (L) w' := by
 refine enter Tryz.func44 rfl Tryz.ntmps44 [(0, .slice A0 n0 c0)] rfl (by simp) ?_
 intro ac hA Qf hQ hQn
 unfold page_Sum at hF
 refine ws fun K101 hK101 => ?_
 refine x_m hA rfl fun ac hA => ?_
 refine wn (hK101 _ _ ?_)
 refine ws fun K102 hK102 => ?_
 refine x_m hA rfl fun ac hA => ?_
 refine wn (hK102 _ _ ?_)
 refine wp_seq_k fun K103 hK103 => ?_
 refine ws fun K352 hK352 => ?_
 refine x_m hA rfl fun ac hA => ?_
 refine x_len Tryz.underlying22 (hS.rdl 0 ha0 rfl).2.1 hA (fun ac hA => ?_) rfl rfl rfl rfl rfl
 refine x_m hA rfl fun ac hA => ?_
 refine wn (hK352 _ _ ?_)
 refine wp_block_k fun Kx353 hKx353 => ?_
 have hb1 : ∀ (x476 : Int), page_Sum_b1 x476 = some y → ∀ (ac : Act) (w : World), FR 36 [] ac [(3, .int .u32 x476)] → SH r (L) w → Kx353 ac w := by
  intro x476 hF ac w hA hS
  unfold page_Sum_b1 at hF
  refine hKx353 _ _ ?_
  refine hK103 _ _ ?_
  refine ws fun K477 hK477 => ?_
  refine x_m hA rfl fun ac hA => ?_
  refine x_v hA (r_compl rfl (hA.ev rfl)) rfl fun ac hA => ?_
  refine x_m hA rfl fun ac hA => ?_
  refine wn (hK477 _ _ ?_)
  refine wp_ret ?_
  cases hF
  refine hQ _ _ ?_
  refine lv Tryz.results44 hA rfl ?_
  exact ⟨rfl, hS⟩
 obtain ⟨t560, hl560, hF⟩ := bnd hF
 have hx560_0 : ∀ (x560 : Int), (x560) = t560 → ∀ (ac : Act) (w : World), FR 36 [] ac [(3, .int .u32 x560)] → SH r (L) w → Kx353 ac w := by
  intro x560 ht ac w hA hS
  subst ht
  replace hF : page_Sum_x1_0 x560 = some y := hF
  unfold page_Sum_x1_0 at hF
  exact hb1 x560 hF ac w (hA.sub _ rfl) hS
 refine wp_loop_fn hl560 (fun s ac w => FR 36 [] ac [(3, .int .u32 s.1), (6, .slice A0 n0 c0), (7, .int .i64 (a0.length : Int)), (8, .int .i64 s.2)] ∧ SH r (L) w) ⟨hA.sub _ rfl, hS⟩ ?_
 intro N560 s560 o560 hF N560_ T560_ ac w hLab
 obtain ⟨x518, x519⟩ := s560
 replace hF : page_Sum_l1 a0 x518 x519 = some o560 := hF
 unfold page_Sum_l1 at hF
 try dsimp only at hLab
 obtain ⟨hA, hS⟩ := hLab
 refine ws fun K562 hK562 => ?_
 refine x_v hA (r_ltI rfl (hA.ev rfl) (hA.ev rfl)) rfl fun ac hA => ?_
 refine wn (hK562 _ _ ?_)
 refine wp_seq_k fun K563 hK563 => ?_
 refine c_if hA rfl (fun hb564 => ?_) fun hb564 => ?_
 ·replace hF := ift hb564 hF
  refine wp_skip ?_
  refine hK563 _ _ ?_
  refine wp_seq_k fun K565 hK565 => ?_
  refine wp_block_k fun Kx566 hKx566 => ?_
  refine ws fun K567 hK567 => ?_
  obtain ⟨x568, h569, hF⟩ := bnd hF
  refine x_ia Tryz.underlying22 sz5 (hS.rdl 0 ha0 rfl) h569 hA (fun ac hA => ?_) rfl rfl rfl rfl rfl rfl
  obtain ⟨cs, hV, hc570⟩ := el (hS.rdl 0 ha0 rfl) h569
  obtain rfl := hV
  refine x_ld Tryz.underlying5 (hc570 0 _ rfl) hA (fun ac hA => ?_) rfl rfl rfl rfl rfl rfl
  refine x_m hA rfl fun ac hA => ?_
  refine wn (hK567 _ _ ?_)
  refine ws fun K571 hK571 => ?_
  refine x_m hA rfl fun ac hA => ?_
  refine x_m hA rfl fun ac hA => ?_
  obtain ⟨x572, h573, hF⟩ := ltt_ hF
  refine x_v (v := .int .u32 x572) hA (rv_i h573 (r_convI Tryz.underlying5 Tryz.underlying79 rfl (hA.ev rfl))) rfl fun ac hA => ?_
  obtain ⟨x574, h575, hF⟩ := ltt_ hF
  refine x_v (v := .int .u32 x574) hA (rv_i h575 (r_xor rfl (hA.ev rfl) (hA.ev rfl))) rfl fun ac hA => ?_
  obtain ⟨x576, h577, hF⟩ := ltt_ hF
  refine x_v (v := .int .u32 x576) hA (rv_i h577 (r_and rfl (hA.ev rfl) (hA.ev rfl))) rfl fun ac hA => ?_
  obtain ⟨x578, h579, hF⟩ := bnd hF
  refine x_iaA Tryz.underlying104 sz79 (hS.rdl 0 (hG0.rdl qz hZ) rfl) h579 hA (fun ac hA => ?_) rfl rfl rfl rfl rfl rfl
  obtain ⟨cs, hV, hc580⟩ := el (hS.rdl 0 (hG0.rdl qz hZ) rfl) h579
  obtain rfl := hV
  refine x_ld Tryz.underlying79 (hc580 0 _ rfl) hA (fun ac hA => ?_) rfl rfl rfl rfl rfl rfl
  refine x_m hA rfl fun ac hA => ?_
  obtain ⟨x581, h582, hF⟩ := ltt_ hF
  refine x_v (v := .int .u32 x581) hA (rv_i h582 (r_shr rfl (hA.ev rfl) (hA.ev rfl) (by decide))) rfl fun ac hA => ?_
  obtain ⟨x583, h584, hF⟩ := ltt_ hF
  refine x_v (v := .int .u32 x583) hA (rv_i h584 (r_xor rfl (hA.ev rfl) (hA.ev rfl))) rfl fun ac hA => ?_
  refine x_m hA rfl fun ac hA => ?_
  refine wn (hK571 _ _ ?_)
  refine wp_reg ?_
  refine x_m hA rfl fun ac hA => ?_
  refine x_m hA rfl fun ac hA => ?_
  refine x_v (v := .int .u32 x572) hA (rv_i h573 (r_convI Tryz.underlying5 Tryz.underlying79 rfl (hA.ev rfl))) rfl fun ac hA => ?_
  obtain ⟨x585, h586, hF⟩ := ltt_ hF
  refine x_v (v := .int .u32 x585) hA (rv_i h586 (r_shr rfl (hA.ev rfl) (hA.ev rfl) (by decide))) rfl fun ac hA => ?_
  obtain ⟨x587, h588, hF⟩ := ltt_ hF
  refine x_v (v := .int .u32 x587) hA (rv_i h588 (r_xor rfl (hA.ev rfl) (hA.ev rfl))) rfl fun ac hA => ?_
  obtain ⟨x589, h590, hF⟩ := ltt_ hF
  refine x_v (v := .int .u32 x589) hA (rv_i h590 (r_and rfl (hA.ev rfl) (hA.ev rfl))) rfl fun ac hA => ?_
  obtain ⟨x591, h592, hF⟩ := bnd hF
  refine x_iaA Tryz.underlying104 sz79 (hS.rdl 0 (hG0.rdl qz hZ) rfl) h592 hA (fun ac hA => ?_) rfl rfl rfl rfl rfl rfl
  obtain ⟨cs, hV, hc593⟩ := el (hS.rdl 0 (hG0.rdl qz hZ) rfl) h592
  obtain rfl := hV
  refine x_ld Tryz.underlying79 (hc593 0 _ rfl) hA (fun ac hA => ?_) rfl rfl rfl rfl rfl rfl
  refine x_m hA rfl fun ac hA => ?_
  obtain ⟨x594, h595, hF⟩ := ltt_ hF
  refine x_v (v := .int .u32 x594) hA (rv_i h595 (r_shr rfl (hA.ev rfl) (hA.ev rfl) (by decide))) rfl fun ac hA => ?_
  obtain ⟨x596, h597, hF⟩ := ltt_ hF
  refine x_v (v := .int .u32 x596) hA (rv_i h597 (r_xor rfl (hA.ev rfl) (hA.ev rfl))) rfl fun ac hA => ?_
  refine x_m hA rfl fun ac hA => ?_
  refine wpList_nil ?_
  refine hKx566 _ _ ?_
  refine hK565 _ _ ?_
  refine wp_reg ?_
  obtain ⟨x598, h599, hF⟩ := ltt_ hF
  refine x_v (v := .int .i64 x598) hA (rv_i h599 (r_add rfl (hA.ev rfl) (hA.ev rfl))) rfl fun ac hA => ?_
  refine x_m hA rfl fun ac hA => ?_
  refine wpList_nil ?_
  cases hF
  exact ⟨_, N560_ _ rfl, hA.sub _ rfl, hS⟩
 replace hF := iff' hb564 hF
 refine wp_exit ?_
 cases hF
 exact hx560_0 x518 (T560_ _ rfl) ac w (hA.sub _ rfl) hS
theorem F_page_number {r : World} {L : List HP} {w : World} (a0 : (List Int)) (A0 : Option Addr) (n0 : Nat) (c0 : Nat) {y : (Int)} (hF : page_number a0 = some y) (ha0 : RdL L (kI .u8) A0 n0 c0 a0) (hS : SH r (L) w) :
  Ret Tryz.prog 45 #[.slice A0 n0 c0] w fun v w' => v = .int .u32 y ∧ SH r (L) w' := by
 refine enter Tryz.func45 rfl Tryz.ntmps45 [(0, .slice A0 n0 c0)] rfl (by simp) ?_
 intro ac hA Qf hQ hQn
 unfold page_number at hF
 refine ws fun K101 hK101 => ?_
 refine x_m hA rfl fun ac hA => ?_
 refine wn (hK101 _ _ ?_)
 refine wp_seq_k fun K102 hK102 => ?_
 refine wp_draw [0, 1, 3, 7, 0, 16, 48, 112, 240, 511, 0, 1024, 3072, 7168, 15360, 32767, 0, 65536, 196608, 458752, 983040, 2097151, 4194303] [] rfl hA hS (by kernel_rfl) (by kernel_rfl) (by kernel_rfl) (by kernel_rfl) fun w hS => ?_
 obtain ⟨x103, h104, hF⟩ := bnd hF
 obtain ⟨cs, hV, hc105⟩ := el (hS.rdl 0 ha0 rfl) h104
 obtain rfl := hV
 obtain ⟨x106, h107, hF⟩ := ltt_ hF
 obtain ⟨x108, h109, hF⟩ := bnd hF
 obtain ⟨cs, hV, hc110⟩ := el (hS.rdl 0 ha0 rfl) h109
 obtain rfl := hV
 obtain ⟨x111, h112, hF⟩ := ltt_ hF
 obtain ⟨x113, h114, hF⟩ := ltt_ hF
 obtain ⟨x115, h116, hF⟩ := ltt_ hF
 obtain ⟨x117, h118, hF⟩ := bnd hF
 obtain ⟨cs, hV, hc119⟩ := el (hS.rdl 0 ha0 rfl) h118
 obtain rfl := hV
 obtain ⟨x120, h121, hF⟩ := ltt_ hF
 obtain ⟨x122, h123, hF⟩ := ltt_ hF
 obtain ⟨x124, h125, hF⟩ := ltt_ hF
 obtain ⟨x126, h127, hF⟩ := bnd hF
 obtain ⟨cs, hV, hc128⟩ := el (hS.rdl 0 ha0 rfl) h127
 obtain rfl := hV
 obtain ⟨x129, h130, hF⟩ := ltt_ hF
 obtain ⟨x131, h132, hF⟩ := ltt_ hF
 obtain ⟨x133, h134, hF⟩ := ltt_ hF
 refine ⟨[(0, .slice A0 n0 c0), (1, .pointer (some (ea A0 ((0 : Int).toNat * 1)))), (2, .int .u8 x103), (3, .int .u32 x106), (4, .slice A0 n0 c0), (5, .pointer (some (ea A0 ((1 : Int).toNat * 1)))), (6, .int .u8 x108), (7, .int .u32 x111), (8, .int .u32 x113), (9, .int .u32 x115), (10, .slice A0 n0 c0), (11, .pointer (some (ea A0 ((2 : Int).toNat * 1)))), (12, .int .u8 x117), (13, .int .u32 x120), (14, .int .u32 x122), (15, .int .u32 x124), (16, .slice A0 n0 c0), (17, .pointer (some (ea A0 ((3 : Int).toNat * 1)))), (18, .int .u8 x126), (19, .int .u32 x129), (20, .int .u32 x131), (21, .int .u32 x133), (22, .int .u32 x133)], ?_⟩
 refine dEnd [0, 1, 2, 3, 4, 5, 6, 7, 8, 9, 10, 11, 12, 13, 14, 15, 16, 17, 18, 19, 20, 21, 22] (by kernel_rfl) ⟨pu rfl rfl [(0, .slice A0 n0 c0)] (fun ac hA => y_move hA rfl rfl) rfl rfl, pu rfl rfl [(3, .slice A0 n0 c0)] (fun ac hA => y_ia Tryz.underlying22 sz5 (hS.rdl 0 ha0 rfl) h104 hA rfl rfl rfl) rfl rfl, pu rfl rfl [(4, .pointer (some (ea A0 ((0 : Int).toNat * 1))))] (fun ac hA => y_ld Tryz.underlying5 (hc105 0 _ rfl) hA rfl rfl rfl) rfl rfl, pu rfl rfl [(5, .int .u8 x103)] (fun ac hA => (rv_i h107 (r_convI Tryz.underlying5 Tryz.underlying79 rfl (hA.ev rfl)) : RunV _ _ _ _ (.int .u32 x106))) rfl rfl, pu rfl rfl [(0, .slice A0 n0 c0)] (fun ac hA => y_move hA rfl rfl) rfl rfl, pu rfl rfl [(7, .slice A0 n0 c0)] (fun ac hA => y_ia Tryz.underlying22 sz5 (hS.rdl 0 ha0 rfl) h109 hA rfl rfl rfl) rfl rfl, pu rfl rfl [(8, .pointer (some (ea A0 ((1 : Int).toNat * 1))))] (fun ac hA => y_ld Tryz.underlying5 (hc110 0 _ rfl) hA rfl rfl rfl) rfl rfl, pu rfl rfl [(9, .int .u8 x108)] (fun ac hA => (rv_i h112 (r_convI Tryz.underlying5 Tryz.underlying79 rfl (hA.ev rfl)) : RunV _ _ _ _ (.int .u32 x111))) rfl rfl, pu rfl rfl [(10, .int .u32 x111)] (fun ac hA => (rv_i h114 (r_shl rfl (hA.ev rfl) (hA.ev rfl) (by decide)) : RunV _ _ _ _ (.int .u32 x113))) rfl rfl, pu rfl rfl [(6, .int .u32 x106), (11, .int .u32 x113)] (fun ac hA => (rv_i h116 (r_or rfl (hA.ev rfl) (hA.ev rfl)) : RunV _ _ _ _ (.int .u32 x115))) rfl rfl, pu rfl rfl [(0, .slice A0 n0 c0)] (fun ac hA => y_move hA rfl rfl) rfl rfl, pu rfl rfl [(13, .slice A0 n0 c0)] (fun ac hA => y_ia Tryz.underlying22 sz5 (hS.rdl 0 ha0 rfl) h118 hA rfl rfl rfl) rfl rfl, pu rfl rfl [(14, .pointer (some (ea A0 ((2 : Int).toNat * 1))))] (fun ac hA => y_ld Tryz.underlying5 (hc119 0 _ rfl) hA rfl rfl rfl) rfl rfl, pu rfl rfl [(15, .int .u8 x117)] (fun ac hA => (rv_i h121 (r_convI Tryz.underlying5 Tryz.underlying79 rfl (hA.ev rfl)) : RunV _ _ _ _ (.int .u32 x120))) rfl rfl, pu rfl rfl [(16, .int .u32 x120)] (fun ac hA => (rv_i h123 (r_shl rfl (hA.ev rfl) (hA.ev rfl) (by decide)) : RunV _ _ _ _ (.int .u32 x122))) rfl rfl, pu rfl rfl [(12, .int .u32 x115), (17, .int .u32 x122)] (fun ac hA => (rv_i h125 (r_or rfl (hA.ev rfl) (hA.ev rfl)) : RunV _ _ _ _ (.int .u32 x124))) rfl rfl, pu rfl rfl [(0, .slice A0 n0 c0)] (fun ac hA => y_move hA rfl rfl) rfl rfl, pu rfl rfl [(19, .slice A0 n0 c0)] (fun ac hA => y_ia Tryz.underlying22 sz5 (hS.rdl 0 ha0 rfl) h127 hA rfl rfl rfl) rfl rfl, pu rfl rfl [(20, .pointer (some (ea A0 ((3 : Int).toNat * 1))))] (fun ac hA => y_ld Tryz.underlying5 (hc128 0 _ rfl) hA rfl rfl rfl) rfl rfl, pu rfl rfl [(21, .int .u8 x126)] (fun ac hA => (rv_i h130 (r_convI Tryz.underlying5 Tryz.underlying79 rfl (hA.ev rfl)) : RunV _ _ _ _ (.int .u32 x129))) rfl rfl, pu rfl rfl [(22, .int .u32 x129)] (fun ac hA => (rv_i h132 (r_shl rfl (hA.ev rfl) (hA.ev rfl) (by decide)) : RunV _ _ _ _ (.int .u32 x131))) rfl rfl, pu rfl rfl [(18, .int .u32 x124), (23, .int .u32 x131)] (fun ac hA => (rv_i h134 (r_or rfl (hA.ev rfl) (hA.ev rfl)) : RunV _ _ _ _ (.int .u32 x133))) rfl rfl, pu rfl rfl [(24, .int .u32 x133)] (fun ac hA => y_assign hA rfl rfl) rfl rfl, trivial⟩ ⟨by kernel_rfl, by kernel_rfl⟩ [(2, .int .u32 x133)] rfl (fun ac hA => ?_)
 refine hK102 _ _ ?_
 refine wp_ret ?_
 cases hF
 refine hQ _ _ ?_
 refine lv Tryz.results45 hA rfl ?_
 exact ⟨rfl, hS⟩
theorem F_slices_Clone_byte_byte {r : World} {L : List HP} {w : World} (a0 : (List Int)) (A0 : Option Addr) (n0 : Nat) (c0 : Nat) {y : ((List Int))} (hF : slices_Clone_byte_byte a0 = some y) (ha0 : RdL L (kI .u8) A0 n0 c0 a0) (hS : SH r (L) w) :
  Ret Tryz.prog 46 #[.slice A0 n0 c0] w fun v w' => ∃ (B0 : Option Addr) (m0 : Nat) (d0 : Nat), v = .slice B0 m0 d0 ∧ SH r (own (kI .u8) 5 B0 m0 d0 y :: L) w' := by
 refine enter Tryz.func46 rfl Tryz.ntmps46 [(0, .slice A0 n0 c0)] rfl (by simp) ?_
 intro ac hA Qf hQ hQn
 unfold slices_Clone_byte_byte at hF
 refine ws fun K101 hK101 => ?_
 refine x_m hA rfl fun ac hA => ?_
 refine wn (hK101 _ _ ?_)
 refine wp_seq_k fun K102 hK102 => ?_
 refine ws fun K103 hK103 => ?_
 refine x_m hA rfl fun ac hA => ?_
 rcases A0 with _ | ad104
 ·replace hF := nil_l (RdL.none_nil ha0 (hS.sfx 0)) hF
  refine x_v (v := .bool true) hA (r_eqNilS (p := none) Tryz.underlying22 rfl (hA.ev rfl) (hA.ev rfl)) rfl fun ac hA => ?_
  refine wn (hK103 _ _ ?_)
  refine c_t (b := true) rfl hA ?_ rfl
  refine ws fun K105 hK105 => ?_
  refine x_m hA rfl fun ac hA => ?_
  refine wn (hK105 _ _ ?_)
  refine wp_ret ?_
  replace hS := SH.nil_own (d := (kI .u8)) (e := 5) hS
  cases hF
  refine hQ _ _ ?_
  refine lv Tryz.results46 hA rfl ?_
  exact ⟨none, 0, 0, rfl, hS⟩
 replace hF := nil_r hF
 refine x_v (v := .bool false) hA (r_eqNilS (p := some ad104) Tryz.underlying22 rfl (hA.ev rfl) (hA.ev rfl)) rfl fun ac hA => ?_
 refine wn (hK103 _ _ ?_)
 refine c_f (b := false) rfl hA ?_ rfl
 refine wp_skip ?_
 refine hK102 _ _ ?_
 refine ws fun K106 hK106 => ?_
 refine x_bsl (d := (kI .u8)) (e := 5) (ps := #[]) (cells := []) (xs := []) (fun w => by kernel_rfl) rfl rfl hA hS (fun g107 ac w hS hA => ?_) rfl rfl rfl rfl rfl rfl
 refine x_m hA rfl fun ac hA => ?_
 obtain ⟨h108, hF⟩ := chk_some hF
 have hr := hS.rdl 1 ha0 rfl
 refine x_app 0 inf5 Tryz.underlying22 hA hS hr.1 hr.2.1 h108 rfl (fun A109 n110 c111 ac w hS hA => ?_) rfl rfl rfl rfl rfl rfl rfl rfl rfl
 rw [List.nil_append] at hS
 refine x_m hA rfl fun ac hA => ?_
 refine wn (hK106 _ _ ?_)
 refine wp_ret ?_
 cases hF
 refine hQ _ _ ?_
 refine lv Tryz.results46 hA rfl ?_
 exact ⟨A109, n110, c111, rfl, hS⟩
theorem F_page_Read {r : World} {L : List HP} {w : World} {Z : Nat → Prop} {wz : World} (a0 : (List Int)) (a1 : Int) (A0 : Option Addr) (n0 : Nat) (c0 : Nat) {y : (Int × (List Int) × Int × Int)} (hF : page_Read a0 a1 = some y) (qz : Nat) (hZ : L[qz]? = some (zone Z wz)) (ha0 : Imm Z wz (kI .u8) A0 n0 c0 a0) (hG0 : Imm Z wz (kI .u32) (some ⟨0, 0, none⟩) 16 16 gl_page_table) (hS : SH r (L) w) :
  Ret Tryz.prog 17 #[.slice A0 n0 c0, .int .i64 a1] w fun v w' => ∃ (B1 : Option Addr) (m1 : Nat) (d1 : Nat), v = .tuple #[(.int .u8 y.1), (.slice B1 m1 d1), (.int .i64 y.2.2.1), (.int .i64 y.2.2.2)] ∧ SH r (own (kI .u8) 5 B1 m1 d1 y.2.1 :: L) w' := by
 refine enter Tryz.func17 rfl Tryz.ntmps17 [(0, .slice A0 n0 c0), (1, .int .i64 a1)] rfl (by simp) ?_
 intro ac hA Qf hQ hQn
 unfold page_Read at hF
 refine ws fun K101 hK101 => ?_
 refine x_m hA rfl fun ac hA => ?_
 refine x_m hA rfl fun ac hA => ?_
 refine x_m hA rfl fun ac hA => ?_
 refine x_m hA rfl fun ac hA => ?_
 refine wn (hK101 _ _ ?_)
 refine wp_seq_k fun K102 hK102 => ?_
 refine wp_seq_k fun K103 hK103 => ?_
 have hj1 : ∀ (b105 : Bool), page_Read_j1 a0 a1 b105 = some y → ∀ (ac : Act) (w : World), FR 60 [] ac [(0, .slice A0 n0 c0), (1, .int .i64 a1), (18, .bool b105)] → SH r (L) w → K103 ac w := by
  intro b105 hF ac w hA hS
  unfold page_Read_j1 at hF
  refine hK103 _ _ ?_
  refine c_if hA rfl (fun hb106 => ?_) fun hb106 => ?_
  ·replace hF := ift hb106 hF
   refine ws fun K107 hK107 => ?_
   refine x_m hA rfl fun ac hA => ?_
   refine x_m hA rfl fun ac hA => ?_
   refine x_m hA rfl fun ac hA => ?_
   refine x_m hA rfl fun ac hA => ?_
   refine wn (hK107 _ _ ?_)
   refine wp_ret ?_
   replace hS := SH.nil_own (d := (kI .u8)) (e := 5) hS
   cases hF
   refine hQ _ _ ?_
   refine lv4 Tryz.results17 hA rfl rfl rfl rfl ?_
   exact ⟨none, 0, 0, rfl, hS⟩
  replace hF := iff' hb106 hF
  refine wp_skip ?_
  refine hK102 _ _ ?_
  refine ws fun K108 hK108 => ?_
  refine x_m hA rfl fun ac hA => ?_
  refine x_m hA rfl fun ac hA => ?_
  obtain ⟨l109, h110, hF⟩ := bnd hF
  obtain ⟨A113, n114, c115, e112, h111⟩ := imm_lc ha0 h110
  refine x_v (v := .slice A113 n114 c115) hA (rv_e e112 (r_slice_l Tryz.underlying22 sz5 rfl (hA.ev rfl) (hA.ev rfl) (cutq (hS.rdl 0 (ha0.rdl qz hZ) rfl) h110).1 (cutq (hS.rdl 0 (ha0.rdl qz hZ) rfl) h110).2.2.2.2.2)) rfl fun ac hA => ?_
  refine x_m hA rfl fun ac hA => ?_
  refine wn (hK108 _ _ ?_)
  refine wp_seq_k fun K116 hK116 => ?_
  refine ws fun K117 hK117 => ?_
  refine x_m hA rfl fun ac hA => ?_
  refine x_len Tryz.underlying22 (hS.rdl 0 (h111.rdl qz hZ) rfl).2.1 hA (fun ac hA => ?_) rfl rfl rfl rfl rfl
  refine x_v hA (r_ltI rfl (hA.ev rfl) (hA.ev rfl)) rfl fun ac hA => ?_
  refine wn (hK117 _ _ ?_)
  refine c_if hA rfl (fun hb118 => ?_) fun hb118 => ?_
  ·replace hF := ift hb118 hF
   refine ws fun K119 hK119 => ?_
   refine x_m hA rfl fun ac hA => ?_
   refine x_m hA rfl fun ac hA => ?_
   refine x_m hA rfl fun ac hA => ?_
   refine x_m hA rfl fun ac hA => ?_
   refine wn (hK119 _ _ ?_)
   refine wp_ret ?_
   replace hS := SH.nil_own (d := (kI .u8)) (e := 5) hS
   cases hF
   refine hQ _ _ ?_
   refine lv4 Tryz.results17 hA rfl rfl rfl rfl ?_
   exact ⟨none, 0, 0, rfl, hS⟩
  replace hF := iff' hb118 hF
  refine wp_skip ?_
  refine hK116 _ _ ?_
  refine ws fun K120 hK120 => ?_
  refine x_m hA rfl fun ac hA => ?_
  obtain ⟨y121, h122, hF⟩ := bnd hF
  refine x_call en45 hA (F_page_number (L := L) l109 A113 n114 c115 h122 (RdL.sfx 0 rfl (h111.rdl qz hZ)) hS) (fun v ac w hR hA => ?_) rfl rfl rfl rfl rfl
  obtain ⟨rfl, hS⟩ := hR
  refine x_m hA rfl fun ac hA => ?_
  refine wn (hK120 _ _ ?_)
  refine wp_seq_k fun K123 hK123 => ?_
  refine wp_seq_k fun K124 hK124 => ?_
  have hj2 : ∀ (b130 : Bool), page_Read_j2 a1 l109 y121 b130 = some y → ∀ (ac : Act) (w : World), FR 60 [] ac [(1, .int .i64 a1), (8, .slice A113 n114 c115), (9, .int .u32 y121), (36, .bool b130)] → SH r (L) w → K124 ac w := by
   intro b130 hF ac w hA hS
   unfold page_Read_j2 at hF
   refine hK124 _ _ ?_
   refine c_if hA rfl (fun hb131 => ?_) fun hb131 => ?_
   ·replace hF := ift hb131 hF
    refine ws fun K132 hK132 => ?_
    refine x_m hA rfl fun ac hA => ?_
    refine x_m hA rfl fun ac hA => ?_
    refine x_m hA rfl fun ac hA => ?_
    refine x_m hA rfl fun ac hA => ?_
    refine wn (hK132 _ _ ?_)
    refine wp_ret ?_
    replace hS := SH.nil_own (d := (kI .u8)) (e := 5) hS
    cases hF
    refine hQ _ _ ?_
    refine lv4 Tryz.results17 hA rfl rfl rfl rfl ?_
    exact ⟨none, 0, 0, rfl, hS⟩
   replace hF := iff' hb131 hF
   refine wp_skip ?_
   refine hK123 _ _ ?_
   refine ws fun K133 hK133 => ?_
   refine x_m hA rfl fun ac hA => ?_
   obtain ⟨x134, h135, hF⟩ := ltt_ hF
   refine x_v (v := .int .i64 x134) hA (rv_i h135 (r_convI Tryz.underlying79 Tryz.underlying3 rfl (hA.ev rfl))) rfl fun ac hA => ?_
   obtain ⟨x136, h137, hF⟩ := ltt_ hF
   refine x_v (v := .int .i64 x136) hA (rv_i h137 (r_add rfl (hA.ev rfl) (hA.ev rfl))) rfl fun ac hA => ?_
   refine x_m hA rfl fun ac hA => ?_
   refine wn (hK133 _ _ ?_)
   refine wp_seq_k fun K138 hK138 => ?_
   refine wp_seq_k fun K139 hK139 => ?_
   refine wp_draw [0, 0, 3, 7, 0, 0, 48, 127, 255] [3, 7] rfl hA hS (by kernel_rfl) (by kernel_rfl) (by kernel_rfl) (by kernel_rfl) fun w hS => ?_
   obtain ⟨l140, h141, hF⟩ := bnd hF
   obtain ⟨A144, n145, c146, e143, h142⟩ := imm_hc h111 h141
   obtain ⟨l147, h148, hF⟩ := bnd hF
   obtain ⟨A151, n152, c153, e150, h149⟩ := imm_lc h111 h148
   refine ⟨[(0, .slice A113 n114 c115), (1, .int .i64 x136), (2, .slice A144 n145 c146), (4, .slice A113 n114 c115), (5, .int .i64 x136), (6, .slice A151 n152 c153)], ?_⟩
   refine dEff [0, 1, 2, 4, 5, 6] [3] (by kernel_rfl) ⟨pu rfl rfl [(8, .slice A113 n114 c115)] (fun ac hA => y_move hA rfl rfl) rfl rfl, pu rfl rfl [(10, .int .i64 x136)] (fun ac hA => y_move hA rfl rfl) rfl rfl, pu rfl rfl [(40, .slice A113 n114 c115), (41, .int .i64 x136)] (fun ac hA => (rv_e e143 (r_slice_h Tryz.underlying22 sz5 rfl (hA.ev rfl) (hA.ev rfl) (cutq (hS.rdl 0 (h111.rdl qz hZ) rfl) h141).2.2.2.2.1 (cutq (hS.rdl 0 (h111.rdl qz hZ) rfl) h141).2.2.1) : RunV _ _ _ _ (.slice A144 n145 c146))) rfl rfl, pu rfl rfl [(8, .slice A113 n114 c115)] (fun ac hA => y_move hA rfl rfl) rfl rfl, pu rfl rfl [(10, .int .i64 x136)] (fun ac hA => y_move hA rfl rfl) rfl rfl, pu rfl rfl [(44, .slice A113 n114 c115), (45, .int .i64 x136)] (fun ac hA => (rv_e e150 (r_slice_l Tryz.underlying22 sz5 rfl (hA.ev rfl) (hA.ev rfl) (cutq (hS.rdl 0 (h111.rdl qz hZ) rfl) h148).1 (cutq (hS.rdl 0 (h111.rdl qz hZ) rfl) h148).2.2.2.2.2) : RunV _ _ _ _ (.slice A151 n152 c153))) rfl rfl, trivial⟩ (by kernel_rfl) (by kernel_rfl) ⟨ef rfl [(42, .slice A144 n145 c146)] (fun ac hA K hK => ?_) rfl rfl, trivial⟩
   obtain ⟨y154, h155, hF⟩ := bnd hF
   refine z_call en44 hA (F_page_Sum (L := L) l140 A144 n145 c146 h155 (qz + 0) hZ (RdL.sfx 0 rfl (h142.rdl qz hZ)) hG0 hS) (fun v w hR => ?_) rfl rfl
   obtain ⟨rfl, hS⟩ := hR
   refine hK _ [] _ rfl ?_
   refine dEff [4, 5, 6] [7] (by kernel_rfl) ⟨pu rfl rfl [(8, .slice A113 n114 c115)] (fun ac hA => y_move hA rfl rfl) rfl rfl, pu rfl rfl [(10, .int .i64 x136)] (fun ac hA => y_move hA rfl rfl) rfl rfl, pu rfl rfl [(44, .slice A113 n114 c115), (45, .int .i64 x136)] (fun ac hA => (rv_e e150 (r_slice_l Tryz.underlying22 sz5 rfl (hA.ev rfl) (hA.ev rfl) (cutq (hS.rdl 0 (h111.rdl qz hZ) rfl) h148).1 (cutq (hS.rdl 0 (h111.rdl qz hZ) rfl) h148).2.2.2.2.2) : RunV _ _ _ _ (.slice A151 n152 c153))) rfl rfl, trivial⟩ (by kernel_rfl) (by kernel_rfl) ⟨ef rfl [(46, .slice A151 n152 c153)] (fun ac hA K hK => ?_) rfl rfl, trivial⟩
   obtain ⟨y156, h157, hF⟩ := bnd hF
   refine z_call en45 hA (F_page_number (L := L) l147 A151 n152 c153 h157 (RdL.sfx 0 rfl (h149.rdl qz hZ)) hS) (fun v w hR => ?_) rfl rfl
   obtain ⟨rfl, hS⟩ := hR
   refine hK _ [(8, .bool (y154 != y156))] _ rfl ?_
   refine dEnd [8] (by kernel_rfl) ⟨pu rfl rfl [(43, .int .u32 y154), (47, .int .u32 y156)] (fun ac hA => r_neI rfl (hA.ev rfl) (hA.ev rfl)) rfl rfl, trivial⟩ ⟨by kernel_rfl, by kernel_rfl⟩ [(1, .int .i64 a1), (8, .slice A113 n114 c115), (10, .int .i64 x136), (48, .bool (y154 != y156))] rfl (fun ac hA => ?_)
   refine hK139 _ _ ?_
   refine c_if hA rfl (fun hb158 => ?_) fun hb158 => ?_
   ·replace hF := ift hb158 hF
    refine ws fun K159 hK159 => ?_
    refine x_m hA rfl fun ac hA => ?_
    refine x_m hA rfl fun ac hA => ?_
    refine x_m hA rfl fun ac hA => ?_
    refine x_m hA rfl fun ac hA => ?_
    refine wn (hK159 _ _ ?_)
    refine wp_ret ?_
    replace hS := SH.nil_own (d := (kI .u8)) (e := 5) hS
    cases hF
    refine hQ _ _ ?_
    refine lv4 Tryz.results17 hA rfl rfl rfl rfl ?_
    exact ⟨none, 0, 0, rfl, hS⟩
   replace hF := iff' hb158 hF
   refine wp_skip ?_
   refine hK138 _ _ ?_
   refine wp_seq_k fun K160 hK160 => ?_
   refine wp_draw [0, 1, 3, 0, 0, 24, 56, 0, 0, 384, 896, 127, 2175, 8191, 16383] [6] rfl hA hS (by kernel_rfl) (by kernel_rfl) (by kernel_rfl) (by kernel_rfl) fun w hS => ?_
   obtain ⟨x161, h162, hF⟩ := bnd hF
   obtain ⟨cs, hV, hc163⟩ := el (hS.rdl 0 (h111.rdl qz hZ) rfl) h162
   obtain rfl := hV
   obtain ⟨l164, h165, hF⟩ := bnd hF
   obtain ⟨A168, n169, c170, e167, h166⟩ := imm_lhc h111 h165
   obtain ⟨x171, h172, hF⟩ := ltt_ hF
   obtain ⟨x173, h174, hF⟩ := ltt_ hF
   refine ⟨[(0, .slice A113 n114 c115), (1, .pointer (some (ea A113 ((4 : Int).toNat * 1)))), (2, .int .u8 x161), (3, .slice A113 n114 c115), (4, .int .i64 x136), (5, .slice A168 n169 c170), (7, .int .i64 a1), (8, .int .i64 x136), (9, .int .i64 x171), (10, .int .i64 x173)], ?_⟩
   refine dEff [0, 1, 2, 3, 4, 5, 7, 8, 9, 10] [6] (by kernel_rfl) ⟨pu rfl rfl [(8, .slice A113 n114 c115)] (fun ac hA => y_move hA rfl rfl) rfl rfl, pu rfl rfl [(49, .slice A113 n114 c115)] (fun ac hA => y_ia Tryz.underlying22 sz5 (hS.rdl 0 (h111.rdl qz hZ) rfl) h162 hA rfl rfl rfl) rfl rfl, pu rfl rfl [(50, .pointer (some (ea A113 ((4 : Int).toNat * 1))))] (fun ac hA => y_ld Tryz.underlying5 (hc163 0 _ rfl) hA rfl rfl rfl) rfl rfl, pu rfl rfl [(8, .slice A113 n114 c115)] (fun ac hA => y_move hA rfl rfl) rfl rfl, pu rfl rfl [(10, .int .i64 x136)] (fun ac hA => y_move hA rfl rfl) rfl rfl, pu rfl rfl [(52, .slice A113 n114 c115), (53, .int .i64 x136)] (fun ac hA => (rv_e e167 (r_slice_lh Tryz.underlying22 sz5 rfl (hA.ev rfl) (hA.ev rfl) (hA.ev rfl) (cutq (hS.rdl 0 (h111.rdl qz hZ) rfl) h165).1 (cutq (hS.rdl 0 (h111.rdl qz hZ) rfl) h165).2.1 (cutq (hS.rdl 0 (h111.rdl qz hZ) rfl) h165).2.2.1) : RunV _ _ _ _ (.slice A168 n169 c170))) rfl rfl, pu rfl rfl [(1, .int .i64 a1)] (fun ac hA => y_move hA rfl rfl) rfl rfl, pu rfl rfl [(10, .int .i64 x136)] (fun ac hA => y_move hA rfl rfl) rfl rfl, pu rfl rfl [(56, .int .i64 a1), (57, .int .i64 x136)] (fun ac hA => (rv_i h172 (r_add rfl (hA.ev rfl) (hA.ev rfl)) : RunV _ _ _ _ (.int .i64 x171))) rfl rfl, pu rfl rfl [(58, .int .i64 x171)] (fun ac hA => (rv_i h174 (r_add rfl (hA.ev rfl) (hA.ev rfl)) : RunV _ _ _ _ (.int .i64 x173))) rfl rfl, trivial⟩ (by kernel_rfl) (by kernel_rfl) ⟨ef rfl [(54, .slice A168 n169 c170)] (fun ac hA K hK => ?_) rfl rfl, trivial⟩
   obtain ⟨y175, h176, hF⟩ := bnd hF
   refine z_call en46 hA (F_slices_Clone_byte_byte (L := L) l164 A168 n169 c170 h176 (RdL.sfx 0 rfl (h166.rdl qz hZ)) hS) (fun v w hR => ?_) rfl rfl
   obtain ⟨B177, m178, d179, rfl, hS⟩ := hR
   obtain ⟨cs, hV, hc180⟩ := el (hS.rdl 1 (h111.rdl qz hZ) rfl) h162
   obtain rfl := hV
   refine hK _ [(11, .int .u8 x161), (12, .slice B177 m178 d179), (13, .int .i64 x173), (14, .int .i64 0)] _ rfl ?_
   refine dEnd [0, 1, 2, 7, 8, 9, 10, 11, 12, 13, 14] (by kernel_rfl) ⟨pu rfl rfl [(8, .slice A113 n114 c115)] (fun ac hA => y_move hA rfl rfl) rfl rfl, pu rfl rfl [(49, .slice A113 n114 c115)] (fun ac hA => y_ia Tryz.underlying22 sz5 (hS.rdl 1 (h111.rdl qz hZ) rfl) h162 hA rfl rfl rfl) rfl rfl, pu rfl rfl [(50, .pointer (some (ea A113 ((4 : Int).toNat * 1))))] (fun ac hA => y_ld Tryz.underlying5 (hc180 0 _ rfl) hA rfl rfl rfl) rfl rfl, pu rfl rfl [(1, .int .i64 a1)] (fun ac hA => y_move hA rfl rfl) rfl rfl, pu rfl rfl [(10, .int .i64 x136)] (fun ac hA => y_move hA rfl rfl) rfl rfl, pu rfl rfl [(56, .int .i64 a1), (57, .int .i64 x136)] (fun ac hA => (rv_i h172 (r_add rfl (hA.ev rfl) (hA.ev rfl)) : RunV _ _ _ _ (.int .i64 x171))) rfl rfl, pu rfl rfl [(58, .int .i64 x171)] (fun ac hA => (rv_i h174 (r_add rfl (hA.ev rfl) (hA.ev rfl)) : RunV _ _ _ _ (.int .i64 x173))) rfl rfl, pu rfl rfl [(51, .int .u8 x161)] (fun ac hA => y_assign hA rfl rfl) rfl rfl, pu rfl rfl [(55, .slice B177 m178 d179)] (fun ac hA => y_assign hA rfl rfl) rfl rfl, pu rfl rfl [(59, .int .i64 x173)] (fun ac hA => y_assign hA rfl rfl) rfl rfl, pu rfl rfl [] (fun ac hA => y_assign hA rfl rfl) rfl rfl, trivial⟩ ⟨by kernel_rfl, by kernel_rfl⟩ [(4, .int .u8 x161), (5, .slice B177 m178 d179), (6, .int .i64 x173), (7, .int .i64 0)] rfl (fun ac hA => ?_)
   refine hK160 _ _ ?_
   refine wp_ret ?_
   cases hF
   refine hQ _ _ ?_
   refine lv4 Tryz.results17 hA rfl rfl rfl rfl ?_
   exact ⟨B177, m178, d179, rfl, hS⟩
  refine wp_reg ?_
  refine x_m hA rfl fun ac hA => ?_
  refine x_v hA (r_gtI rfl (hA.ev rfl) (hA.ev rfl)) rfl fun ac hA => ?_
  refine x_m hA rfl fun ac hA => ?_
  refine bcase (b := decide (1048576 < y121)) (fun hb181 => ?_) fun hb181 => ?_
  ·replace hF := ift hb181 hF
   refine x_off hb181 hA (fun ac hA => ?_) rfl rfl rfl rfl rfl
   refine x_off hb181 hA (fun ac hA => ?_) rfl rfl rfl rfl rfl
   refine x_off hb181 hA (fun ac hA => ?_) rfl rfl rfl rfl rfl
   refine x_off hb181 hA (fun ac hA => ?_) rfl rfl rfl rfl rfl
   refine x_off hb181 hA (fun ac hA => ?_) rfl rfl rfl rfl rfl
   refine x_off hb181 hA (fun ac hA => ?_) rfl rfl rfl rfl rfl
   refine x_pickt hb181 hA (fun ac hA => ?_) rfl rfl rfl rfl rfl rfl
   refine wpList_nil ?_
   exact hj2 true hF ac w (hA.sub _ rfl) hS
  replace hF := iff' hb181 hF
  refine x_on hb181 hA ?_ rfl rfl rfl
  refine x_m hA rfl fun ac hA => ?_
  refine x_on hb181 hA ?_ rfl rfl rfl
  obtain ⟨x182, h183, hF⟩ := ltt_ hF
  refine x_v (v := .int .i64 x182) hA (rv_i h183 (r_convI Tryz.underlying79 Tryz.underlying3 rfl (hA.ev rfl))) rfl fun ac hA => ?_
  refine x_on hb181 hA ?_ rfl rfl rfl
  refine x_m hA rfl fun ac hA => ?_
  refine x_on hb181 hA ?_ rfl rfl rfl
  refine x_len Tryz.underlying22 (hS.rdl 0 (h111.rdl qz hZ) rfl).2.1 hA (fun ac hA => ?_) rfl rfl rfl rfl rfl
  refine x_on hb181 hA ?_ rfl rfl rfl
  obtain ⟨x184, h185, hF⟩ := ltt_ hF
  refine x_v (v := .int .i64 x184) hA (rv_i h185 (r_sub rfl (hA.ev rfl) (hA.ev rfl))) rfl fun ac hA => ?_
  refine x_on hb181 hA ?_ rfl rfl rfl
  refine x_v hA (r_gtI rfl (hA.ev rfl) (hA.ev rfl)) rfl fun ac hA => ?_
  refine x_pickf hb181 hA (fun ac hA => ?_) rfl rfl rfl rfl rfl rfl
  refine wpList_nil ?_
  exact hj2 (decide (x184 < x182)) hF ac w (hA.sub _ rfl) hS
 refine wp_reg ?_
 refine x_m hA rfl fun ac hA => ?_
 refine x_v hA (r_ltI rfl (hA.ev rfl) (hA.ev rfl)) rfl fun ac hA => ?_
 refine x_m hA rfl fun ac hA => ?_
 refine bcase (b := decide (a1 < 0)) (fun hb186 => ?_) fun hb186 => ?_
 ·replace hF := ift hb186 hF
  refine x_off hb186 hA (fun ac hA => ?_) rfl rfl rfl rfl rfl
  refine x_off hb186 hA (fun ac hA => ?_) rfl rfl rfl rfl rfl
  refine x_off hb186 hA (fun ac hA => ?_) rfl rfl rfl rfl rfl
  refine x_off hb186 hA (fun ac hA => ?_) rfl rfl rfl rfl rfl
  refine x_pickt hb186 hA (fun ac hA => ?_) rfl rfl rfl rfl rfl rfl
  refine wpList_nil ?_
  exact hj1 true hF ac w (hA.sub _ rfl) hS
 replace hF := iff' hb186 hF
 refine x_on hb186 hA ?_ rfl rfl rfl
 refine x_m hA rfl fun ac hA => ?_
 refine x_on hb186 hA ?_ rfl rfl rfl
 refine x_m hA rfl fun ac hA => ?_
 refine x_on hb186 hA ?_ rfl rfl rfl
 refine x_len Tryz.underlying22 (hS.rdl 0 (ha0.rdl qz hZ) rfl).2.1 hA (fun ac hA => ?_) rfl rfl rfl rfl rfl
 refine x_on hb186 hA ?_ rfl rfl rfl
 refine x_v hA (r_gtI rfl (hA.ev rfl) (hA.ev rfl)) rfl fun ac hA => ?_
 refine x_pickf hb186 hA (fun ac hA => ?_) rfl rfl rfl rfl rfl rfl
 refine wpList_nil ?_
 exact hj1 (decide ((a0.length : Int) < a1)) hF ac w (hA.sub _ rfl) hS
end Go.Proofs.YthokgnonmcgkcaaGreatDoor.M
namespace Go.Proofs.YthokgnonmcgkcaaGreatDoor.M
open Go Go.RowKit Go.Proofs.YthokgnonmcgkcaaGreatDoor.E
set_option linter.unusedVariables false
set_option linter.unusedSimpArgs false
noncomputable def page_four (a0 : Int) : Option ((List Int)) :=
  ltt (IntKind.u8.wrap a0) fun x103 => (ltt (ishr .u32 a0 8) fun x105 => (ltt (IntKind.u8.wrap x105) fun x107 => (ltt (ishr .u32 a0 16) fun x109 => (ltt (IntKind.u8.wrap x109) fun x111 => (ltt (ishr .u32 a0 24) fun x113 => (ltt (IntKind.u8.wrap x113) fun x115 => (some [x103, x107, x111, x115])))))))
noncomputable def page_Lay (a0 : (List Int)) (a1 : Int) (a2 : (List Int)) : Option ((List Int)) :=
  ltt (IntKind.u32.wrap (a2.length : Int)) fun x103 => ((page_four x103).bind fun y105 => (chk (y105.length + [a1].length ≤ 140737488355328 / 1) (chk ((y105 ++ [a1]).length + a2.length ≤ 140737488355328 / 1) (chk (a0.length + ((y105 ++ [a1]) ++ a2).length ≤ 140737488355328 / 1) ((page_Sum ((y105 ++ [a1]) ++ a2)).bind fun y124 => ((page_four y124).bind fun y126 => (chk ((a0 ++ ((y105 ++ [a1]) ++ a2)).length + y126.length ≤ 140737488355328 / 1) (some ((a0 ++ ((y105 ++ [a1]) ++ a2)) ++ y126)))))))))
end Go.Proofs.YthokgnonmcgkcaaGreatDoor.M
namespace Go.Proofs.YthokgnonmcgkcaaGreatDoor.M
open Go Go.RowKit Go.Proofs.YthokgnonmcgkcaaGreatDoor.E
set_option linter.unusedVariables false
set_option maxRecDepth 100000
set_option maxHeartbeats 4000000
set_option linter.unusedSimpArgs false
theorem F_page_four {r : World} {L : List HP} {w : World} (a0 : Int) {y : ((List Int))} (hF : page_four a0 = some y) (hS : SH r (L) w) :
  Ret Tryz.prog 43 #[.int .u32 a0] w fun v w' => ∃ (B0 : Option Addr) (m0 : Nat) (d0 : Nat), v = .slice B0 m0 d0 ∧ SH r (own (kI .u8) 5 B0 m0 d0 y :: L) w' := by
 refine enter Tryz.func43 rfl Tryz.ntmps43 [(0, .int .u32 a0)] rfl (by simp) ?_
 intro ac hA Qf hQ hQn
 unfold page_four at hF
 refine ws fun K101 hK101 => ?_
 refine x_m hA rfl fun ac hA => ?_
 refine wn (hK101 _ _ ?_)
 refine ws fun K102 hK102 => ?_
 refine x_m hA rfl fun ac hA => ?_
 obtain ⟨x103, h104, hF⟩ := ltt_ hF
 refine x_v (v := .int .u8 x103) hA (rv_i h104 (r_convI Tryz.underlying79 Tryz.underlying5 rfl (hA.ev rfl))) rfl fun ac hA => ?_
 refine x_m hA rfl fun ac hA => ?_
 obtain ⟨x105, h106, hF⟩ := ltt_ hF
 refine x_v (v := .int .u32 x105) hA (rv_i h106 (r_shr rfl (hA.ev rfl) (hA.ev rfl) (by decide))) rfl fun ac hA => ?_
 obtain ⟨x107, h108, hF⟩ := ltt_ hF
 refine x_v (v := .int .u8 x107) hA (rv_i h108 (r_convI Tryz.underlying79 Tryz.underlying5 rfl (hA.ev rfl))) rfl fun ac hA => ?_
 refine x_m hA rfl fun ac hA => ?_
 obtain ⟨x109, h110, hF⟩ := ltt_ hF
 refine x_v (v := .int .u32 x109) hA (rv_i h110 (r_shr rfl (hA.ev rfl) (hA.ev rfl) (by decide))) rfl fun ac hA => ?_
 obtain ⟨x111, h112, hF⟩ := ltt_ hF
 refine x_v (v := .int .u8 x111) hA (rv_i h112 (r_convI Tryz.underlying79 Tryz.underlying5 rfl (hA.ev rfl))) rfl fun ac hA => ?_
 refine x_m hA rfl fun ac hA => ?_
 obtain ⟨x113, h114, hF⟩ := ltt_ hF
 refine x_v (v := .int .u32 x113) hA (rv_i h114 (r_shr rfl (hA.ev rfl) (hA.ev rfl) (by decide))) rfl fun ac hA => ?_
 obtain ⟨x115, h116, hF⟩ := ltt_ hF
 refine x_v (v := .int .u8 x115) hA (rv_i h116 (r_convI Tryz.underlying79 Tryz.underlying5 rfl (hA.ev rfl))) rfl fun ac hA => ?_
 refine x_bsl (d := (kI .u8)) (e := 5) (ps := #[(0, .int .u8 x103), (1, .int .u8 x107), (2, .int .u8 x111), (3, .int .u8 x115)]) (cells := [.int .u8 x103, .int .u8 x107, .int .u8 x111, .int .u8 x115]) (xs := [x103, x107, x111, x115]) (fun w => by kernel_rfl) rfl ⟨[.int .u8 x103], _, rfl, rfl, ⟨[.int .u8 x107], _, rfl, rfl, ⟨[.int .u8 x111], _, rfl, rfl, ⟨[.int .u8 x115], _, rfl, rfl, rfl⟩⟩⟩⟩ hA hS (fun g117 ac w hS hA => ?_) rfl rfl rfl rfl rfl rfl
 refine x_m hA rfl fun ac hA => ?_
 refine wn (hK102 _ _ ?_)
 refine wp_ret ?_
 cases hF
 refine hQ _ _ ?_
 refine lv Tryz.results43 hA rfl ?_
 exact ⟨some ⟨g117, 0, none⟩, 4, 4, rfl, hS⟩
theorem F_page_Lay {r : World} {L : List HP} {w : World} {Z : Nat → Prop} {wz : World} (a0 : (List Int)) (a1 : Int) (a2 : (List Int)) (A0 : Option Addr) (n0 : Nat) (c0 : Nat) (A2 : Option Addr) (n2 : Nat) (c2 : Nat) {y : ((List Int))} (hF : page_Lay a0 a1 a2 = some y) (qz : Nat) (hZ : L[qz]? = some (zone Z wz)) (ha2 : RdL L (kI .u8) A2 n2 c2 a2) (hG0 : Imm Z wz (kI .u32) (some ⟨0, 0, none⟩) 16 16 gl_page_table) (hS : SH r (own (kI .u8) 5 A0 n0 c0 a0 :: L) w) :
  Ret Tryz.prog 16 #[.slice A0 n0 c0, .int .u8 a1, .slice A2 n2 c2] w fun v w' => ∃ (B0 : Option Addr) (m0 : Nat) (d0 : Nat), v = .slice B0 m0 d0 ∧ SH r (own (kI .u8) 5 B0 m0 d0 y :: L) w' := by
 refine enter Tryz.func16 rfl Tryz.ntmps16 [(0, .slice A0 n0 c0), (1, .int .u8 a1), (2, .slice A2 n2 c2)] rfl (by simp) ?_
 intro ac hA Qf hQ hQn
 unfold page_Lay at hF
 refine ws fun K101 hK101 => ?_
 refine x_m hA rfl fun ac hA => ?_
 refine wn (hK101 _ _ ?_)
 refine ws fun K102 hK102 => ?_
 refine x_m hA rfl fun ac hA => ?_
 refine x_len Tryz.underlying22 (hS.rdl 1 ha2 rfl).2.1 hA (fun ac hA => ?_) rfl rfl rfl rfl rfl
 obtain ⟨x103, h104, hF⟩ := ltt_ hF
 refine x_v (v := .int .u32 x103) hA (rv_i h104 (r_convI Tryz.underlying3 Tryz.underlying79 rfl (hA.ev rfl))) rfl fun ac hA => ?_
 obtain ⟨y105, h106, hF⟩ := bnd hF
 refine x_call en43 hA (F_page_four (L := own (kI .u8) 5 A0 n0 c0 a0 :: L) x103 h106 hS) (fun v ac w hR hA => ?_) rfl rfl rfl rfl rfl
 obtain ⟨B107, m108, d109, rfl, hS⟩ := hR
 refine x_m hA rfl fun ac hA => ?_
 refine x_bsl (d := (kI .u8)) (e := 5) (ps := #[(0, .int .u8 a1)]) (cells := [.int .u8 a1]) (xs := [a1]) (fun w => by kernel_rfl) rfl ⟨[.int .u8 a1], _, rfl, rfl, rfl⟩ hA hS (fun g110 ac w hS hA => ?_) rfl rfl rfl rfl rfl rfl
 obtain ⟨h111, hF⟩ := chk_some hF
 have hr := hS.rd 0 rfl
 refine x_app 1 inf5 Tryz.underlying22 hA hS hr.1 hr.2.1 h111 rfl (fun A112 n113 c114 ac w hS hA => ?_) rfl rfl rfl rfl rfl rfl rfl rfl rfl
 refine x_m hA rfl fun ac hA => ?_
 obtain ⟨h115, hF⟩ := chk_some hF
 have hr := hS.rdl 3 ha2 rfl
 refine x_app 0 inf5 Tryz.underlying22 hA hS hr.1 hr.2.1 h115 rfl (fun A116 n117 c118 ac w hS hA => ?_) rfl rfl rfl rfl rfl rfl rfl rfl rfl
 refine x_m hA rfl fun ac hA => ?_
 refine wn (hK102 _ _ ?_)
 refine ws fun K119 hK119 => ?_
 refine x_m hA rfl fun ac hA => ?_
 refine x_m hA rfl fun ac hA => ?_
 obtain ⟨h120, hF⟩ := chk_some hF
 have hr := hS.rd 0 rfl
 refine x_app 2 inf5 Tryz.underlying22 hA hS hr.1 hr.2.1 h120 rfl (fun A121 n122 c123 ac w hS hA => ?_) rfl rfl rfl rfl rfl rfl rfl rfl rfl
 refine x_m hA rfl fun ac hA => ?_
 obtain ⟨y124, h125, hF⟩ := bnd hF
 refine x_call en44 hA (F_page_Sum (L := own (kI .u8) 5 A121 n122 c123 (a0 ++ ((y105 ++ [a1]) ++ a2)) :: own (kI .u8) 5 A116 n117 c118 ((y105 ++ [a1]) ++ a2) :: own (kI .u8) 5 (some ⟨g110, 0, none⟩) 1 1 [a1] :: L) ((y105 ++ [a1]) ++ a2) A116 n117 c118 h125 (qz + 3) hZ (RdL.own 1 rfl (hS.dropN 0)) hG0 hS) (fun v ac w hR hA => ?_) rfl rfl rfl rfl rfl
 obtain ⟨rfl, hS⟩ := hR
 obtain ⟨y126, h127, hF⟩ := bnd hF
 refine x_call en43 hA (F_page_four (L := own (kI .u8) 5 A121 n122 c123 (a0 ++ ((y105 ++ [a1]) ++ a2)) :: own (kI .u8) 5 A116 n117 c118 ((y105 ++ [a1]) ++ a2) :: own (kI .u8) 5 (some ⟨g110, 0, none⟩) 1 1 [a1] :: L) y124 h127 hS) (fun v ac w hR hA => ?_) rfl rfl rfl rfl rfl
 obtain ⟨B128, m129, d130, rfl, hS⟩ := hR
 obtain ⟨h131, hF⟩ := chk_some hF
 have hr := hS.rd 0 rfl
 refine x_app 1 inf5 Tryz.underlying22 hA hS hr.1 hr.2.1 h131 rfl (fun A132 n133 c134 ac w hS hA => ?_) rfl rfl rfl rfl rfl rfl rfl rfl rfl
 refine x_m hA rfl fun ac hA => ?_
 refine wn (hK119 _ _ ?_)
 refine wp_ret ?_
 replace hS := hS.drop 1
 replace hS := hS.drop 1
 replace hS := hS.drop 1
 cases hF
 refine hQ _ _ ?_
 refine lv Tryz.results16 hA rfl ?_
 exact ⟨A132, n133, c134, rfl, hS⟩
end Go.Proofs.YthokgnonmcgkcaaGreatDoor.M
namespace Go.Proofs.YthokgnonmcgkcaaGreatDoor.M
open Go Go.RowKit Go.Proofs.YthokgnonmcgkcaaGreatDoor.E
set_option linter.unusedVariables false
set_option linter.unusedSimpArgs false
noncomputable def r04_Sum_b1 (x20428 : Int) : Option (Int) :=
  ltt (ixor .u32 x20428 4294967295) fun x20430 => (some x20430)
noncomputable def r04_Sum_x1_0 (x24966 : Int) : Option (Int) :=
  r04_Sum_b1 x24966
noncomputable def r04_Sum_b2 (x22699 : Int) (x26948 : Int) : Option ((Int × Int) ⊕ ((Int))) :=
  ltt (IntKind.i64.wrap (x22699 + 1)) fun x26949 => (some (.inl (x26948, x26949)))
noncomputable def r04_Sum_x2_2 (x22699 : Int) (x27137 : Int) : Option ((Int × Int) ⊕ ((Int))) :=
  r04_Sum_b2 x22699 x27137
noncomputable def r04_Sum_b3 (x27042 : Int) (x27207 : Int) : Option ((Int × Int) ⊕ ((Int))) :=
  ltt (IntKind.i64.wrap (x27042 + 1)) fun x27208 => (some (.inl (x27207, x27208)))
noncomputable def r04_Sum_l2 (a0 : (List Int)) (x22699 : Int) (x27041 : Int) (x27042 : Int) : Option ((Int × Int) ⊕ ((Int))) :=
  if (decide (x27042 < 8)) = true then ((at_ a0 x22699).bind fun x27211 => (chk (0 ≤ x27042) (ltt (ishr .u8 x27211 x27042) fun x27215 => (ltt (IntKind.u32.wrap x27215) fun x27217 => (ltt (ixor .u32 x27041 x27217) fun x27219 => (ltt (x27219.tmod 2) fun x27221 => (ltt (IntKind.u32.wrap (x27041.tdiv 2)) fun x27224 => (if (x27221 == 1) = true then (ltt (ixor .u32 x27224 3988292384) fun x27228 => (r04_Sum_b3 x27042 x27228)) else (r04_Sum_b3 x27042 x27224))))))))) else (some (.inr (x27041)))
noncomputable def r04_Sum_l1 (a0 : (List Int)) (x22698 : Int) (x22699 : Int) : Option ((Int × Int) ⊕ ((Int))) :=
  if (decide (x22699 < (a0.length : Int))) = true then ((loop (fun s => r04_Sum_l2 a0 x22699 s.1 s.2) (x22698, 0)).bind fun t => r04_Sum_x2_2 x22699 t) else (some (.inr (x22698)))
noncomputable def r04_Sum (a0 : (List Int)) : Option (Int) :=
  (loop (fun s => r04_Sum_l1 a0 s.1 s.2) (4294967295, 0)).bind fun t => r04_Sum_x1_0 t
noncomputable def r04_four (a0 : Int) : Option ((List Int)) :=
  ltt (IntKind.u8.wrap a0) fun x103 => (ltt (IntKind.u32.wrap (a0.tdiv 256)) fun x105 => (ltt (IntKind.u8.wrap x105) fun x107 => (ltt (IntKind.u32.wrap (a0.tdiv 65536)) fun x109 => (ltt (IntKind.u8.wrap x109) fun x111 => (ltt (IntKind.u32.wrap (a0.tdiv 16777216)) fun x113 => (ltt (IntKind.u8.wrap x113) fun x115 => (some [x103, x107, x111, x115])))))))
end Go.Proofs.YthokgnonmcgkcaaGreatDoor.M
