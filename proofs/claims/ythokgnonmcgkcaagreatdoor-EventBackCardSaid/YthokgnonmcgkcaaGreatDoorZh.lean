/- Texts of the claim, joined: what it uses of Mev, Del. -/
import Derived.Test.YthokgnonmcgkcaaGreatDoorZg
namespace Go.Proofs.YthokgnonmcgkcaaGreatDoor.M
open Go Go.RowKit Go.Proofs.YthokgnonmcgkcaaGreatDoor.E
set_option linter.unusedVariables false
set_option maxRecDepth 100000
set_option maxHeartbeats 4000000
set_option linter.unusedSimpArgs false
theorem F_slices_Index_api_Errno_api_Errno {r : World} {L : List HP} {w : World} (a0 : (List Int)) (a1 : Int) (A0 : Option Addr) (n0 : Nat) (c0 : Nat) {y : (Int)} (hF : slices_Index_api_Errno_api_Errno a0 a1 = some y) (ha0 : RdL L (kI .i64) A0 n0 c0 a0) (hS : SH r (L) w) :
  Ret Tryz.prog 55 #[.slice A0 n0 c0, .int .i64 a1] w fun v w' => v = .int .i64 y ∧ SH r (L) w' := by
 refine enter Tryz.func55 rfl Tryz.ntmps55 [(0, .slice A0 n0 c0), (1, .int .i64 a1)] rfl (by simp) ?_
 intro ac hA Qf hQ hQn
 unfold slices_Index_api_Errno_api_Errno at hF
 refine ws fun K101 hK101 => ?_
 refine x_m hA rfl fun ac hA => ?_
 refine wn (hK101 _ _ ?_)
 refine wp_seq_k fun K102 hK102 => ?_
 refine ws fun K198 hK198 => ?_
 refine x_m hA rfl fun ac hA => ?_
 refine x_len Tryz.underlying62 (hS.rdl 0 ha0 rfl).2.1 hA (fun ac hA => ?_) rfl rfl rfl rfl rfl
 refine x_m hA rfl fun ac hA => ?_
 refine wn (hK198 _ _ ?_)
 refine wp_block_k fun Kx199 hKx199 => ?_
 have hb1 : slices_Index_api_Errno_api_Errno_b1 = some y → ∀ (ac : Act) (w : World), FR 19 [] ac [] → SH r (L) w → Kx199 ac w := by
  intro hF ac w hA hS
  unfold slices_Index_api_Errno_api_Errno_b1 at hF
  refine hKx199 _ _ ?_
  refine hK102 _ _ ?_
  refine ws fun K246 hK246 => ?_
  refine x_m hA rfl fun ac hA => ?_
  refine wn (hK246 _ _ ?_)
  refine wp_ret ?_
  cases hF
  refine hQ _ _ ?_
  refine lv Tryz.results55 hA rfl ?_
  exact ⟨rfl, hS⟩
 obtain ⟨t277, hl277, hF⟩ := bnd hF
 have hR277 := hF
 have hx277_0 : (.inl ()) = t277 → ∀ (ac : Act) (w : World), FR 19 [] ac [] → SH r (L) w → Kx199 ac w := by
  intro ht ac w hA hS
  subst ht
  replace hF : slices_Index_api_Errno_api_Errno_x1_0 = some y := hF
  unfold slices_Index_api_Errno_api_Errno_x1_0 at hF
  exact hb1 hF ac w (hA.sub _ rfl) hS
 refine wp_loop_fn hl277 (fun s ac w => FR 19 [] ac [(0, .slice A0 n0 c0), (1, .int .i64 a1), (7, .int .i64 (a0.length : Int)), (8, .int .i64 s)] ∧ SH r (L) w) ⟨hA.sub _ rfl, hS⟩ ?_
 intro N277 s277 o277 hF N277_ T277_ ac w hLab
 obtain ⟨x262, rfl⟩ : ∃ q, q = s277 := ⟨_, rfl⟩
 replace hF : slices_Index_api_Errno_api_Errno_l1 a0 a1 x262 = some o277 := hF
 unfold slices_Index_api_Errno_api_Errno_l1 at hF
 try dsimp only at hLab
 obtain ⟨hA, hS⟩ := hLab
 refine ws fun K279 hK279 => ?_
 refine x_v hA (r_ltI rfl (hA.ev rfl) (hA.ev rfl)) rfl fun ac hA => ?_
 refine wn (hK279 _ _ ?_)
 refine wp_seq_k fun K280 hK280 => ?_
 refine c_if hA rfl (fun hb281 => ?_) fun hb281 => ?_
 ·replace hF := ift hb281 hF
  refine wp_skip ?_
  refine hK280 _ _ ?_
  refine wp_seq_k fun K282 hK282 => ?_
  refine wp_block_k fun Kx283 hKx283 => ?_
  refine ws fun K284 hK284 => ?_
  refine x_m hA rfl fun ac hA => ?_
  refine x_m hA rfl fun ac hA => ?_
  refine wn (hK284 _ _ ?_)
  refine ws fun K285 hK285 => ?_
  refine x_m hA rfl fun ac hA => ?_
  refine x_m hA rfl fun ac hA => ?_
  refine x_m hA rfl fun ac hA => ?_
  obtain ⟨x286, h287, hF⟩ := bnd hF
  refine x_ia Tryz.underlying62 sz27 (hS.rdl 0 ha0 rfl) h287 hA (fun ac hA => ?_) rfl rfl rfl rfl rfl rfl
  obtain ⟨cs, hV, hc288⟩ := el (hS.rdl 0 ha0 rfl) h287
  obtain rfl := hV
  refine x_ld Tryz.underlying27 (hc288 0 _ rfl) hA (fun ac hA => ?_) rfl rfl rfl rfl rfl rfl
  refine x_v hA (r_eqI rfl (hA.ev rfl) (hA.ev rfl)) rfl fun ac hA => ?_
  refine wn (hK285 _ _ ?_)
  refine c_if hA rfl (fun hb289 => ?_) fun hb289 => ?_
  ·replace hF := ift hb289 hF
   refine ws fun K290 hK290 => ?_
   refine x_m hA rfl fun ac hA => ?_
   refine x_m hA rfl fun ac hA => ?_
   refine wn (hK290 _ _ ?_)
   refine wp_ret ?_
   cases hF
   have ht := T277_ _ rfl
   subst ht
   replace hF := hR277
   replace hF : some x262 = some y := hF
   cases hF
   refine hQ _ _ ?_
   refine lv Tryz.results55 hA rfl ?_
   exact ⟨rfl, hS⟩
  replace hF := iff' hb289 hF
  refine wp_skip ?_
  refine hKx283 _ _ ?_
  refine hK282 _ _ ?_
  refine wp_reg ?_
  obtain ⟨x291, h292, hF⟩ := ltt_ hF
  refine x_v (v := .int .i64 x291) hA (rv_i h292 (r_add rfl (hA.ev rfl) (hA.ev rfl))) rfl fun ac hA => ?_
  refine x_m hA rfl fun ac hA => ?_
  refine wpList_nil ?_
  cases hF
  exact ⟨_, N277_ _ rfl, hA.sub _ rfl, hS⟩
 replace hF := iff' hb281 hF
 refine wp_exit ?_
 cases hF
 exact hx277_0 (T277_ _ rfl) ac w (hA.sub _ rfl) hS
theorem F_slices_Contains_api_Errno_api_Errno {r : World} {L : List HP} {w : World} (a0 : (List Int)) (a1 : Int) (A0 : Option Addr) (n0 : Nat) (c0 : Nat) {y : (Bool)} (hF : slices_Contains_api_Errno_api_Errno a0 a1 = some y) (ha0 : RdL L (kI .i64) A0 n0 c0 a0) (hS : SH r (L) w) :
  Ret Tryz.prog 24 #[.slice A0 n0 c0, .int .i64 a1] w fun v w' => v = .bool y ∧ SH r (L) w' := by
 refine enter Tryz.func24 rfl Tryz.ntmps24 [(0, .slice A0 n0 c0), (1, .int .i64 a1)] rfl (by simp) ?_
 intro ac hA Qf hQ hQn
 unfold slices_Contains_api_Errno_api_Errno at hF
 refine ws fun K101 hK101 => ?_
 refine x_m hA rfl fun ac hA => ?_
 refine wn (hK101 _ _ ?_)
 refine ws fun K102 hK102 => ?_
 refine x_m hA rfl fun ac hA => ?_
 refine x_m hA rfl fun ac hA => ?_
 obtain ⟨y103, h104, hF⟩ := bnd hF
 refine x_call en55 hA (F_slices_Index_api_Errno_api_Errno (L := L) a0 a1 A0 n0 c0 h104 (RdL.sfx 0 rfl ha0) hS) (fun v ac w hR hA => ?_) rfl rfl rfl rfl rfl
 obtain ⟨rfl, hS⟩ := hR
 refine x_v hA (r_geI rfl (hA.ev rfl) (hA.ev rfl)) rfl fun ac hA => ?_
 refine x_m hA rfl fun ac hA => ?_
 refine wn (hK102 _ _ ?_)
 refine wp_ret ?_
 cases hF
 refine hQ _ _ ?_
 refine lv Tryz.results24 hA rfl ?_
 exact ⟨rfl, hS⟩
theorem F_event_Form {r : World} {L : List HP} {w : World} (a0 : S37) (a1 : Int) {y : (Bool)} (hF : event_Form a0 a1 = some y) (hS : SH r (L) w) :
  Ret Tryz.prog 25 #[.agg #[.int .u64 a0.f0, .int .i64 a0.f1, .int .i64 a0.f2, str a0.f3, .float .f64 a0.f4], .int .i64 a1] w fun v w' => v = .bool y ∧ SH r (L) w' := by
 refine enter Tryz.func25 rfl Tryz.ntmps25 [(0, .agg #[.int .u64 a0.f0, .int .i64 a0.f1, .int .i64 a0.f2, str a0.f3, .float .f64 a0.f4]), (1, .int .i64 a1)] rfl (by simp) ?_
 intro ac hA Qf hQ hQn
 unfold event_Form at hF
 refine ws fun K101 hK101 => ?_
 refine x_box hA hS (fun g102 ac w hS hA => ?_) rfl rfl rfl rfl rfl rfl
 refine x_m hA rfl fun ac hA => ?_
 refine wn (hK101 _ _ ?_)
 refine ws fun K103 hK103 => ?_
 refine x_fab fa37_1 hA (fun ac hA => ?_) rfl rfl rfl rfl rfl
 refine x_ld Tryz.underlying3 (hS.cell 0 rfl 1 _ rfl) hA (fun ac hA => ?_) rfl rfl rfl rfl rfl rfl
 refine x_v hA (r_geI rfl (hA.ev rfl) (hA.ev rfl)) rfl fun ac hA => ?_
 refine x_m hA rfl fun ac hA => ?_
 refine bcase (b := decide (0 ≤ a0.f1)) (fun hb104 => ?_) fun hb104 => ?_
 ·replace hF := ift hb104 hF
  refine x_on hb104 hA ?_ rfl rfl rfl
  refine x_fab fa37_1 hA (fun ac hA => ?_) rfl rfl rfl rfl rfl
  refine x_on hb104 hA ?_ rfl rfl rfl
  refine x_ld Tryz.underlying3 (hS.cell 0 rfl 1 _ rfl) hA (fun ac hA => ?_) rfl rfl rfl rfl rfl rfl
  refine x_on hb104 hA ?_ rfl rfl rfl
  refine x_m hA rfl fun ac hA => ?_
  refine x_on hb104 hA ?_ rfl rfl rfl
  refine x_v hA (r_ltI rfl (hA.ev rfl) (hA.ev rfl)) rfl fun ac hA => ?_
  refine x_pickt hb104 hA (fun ac hA => ?_) rfl rfl rfl rfl rfl rfl
  refine x_m hA rfl fun ac hA => ?_
  refine bcase (b := decide (a0.f1 < a1)) (fun hb105 => ?_) fun hb105 => ?_
  ·replace hF := ift hb105 hF
   refine x_on hb105 hA ?_ rfl rfl rfl
   refine x_fab fa37_2 hA (fun ac hA => ?_) rfl rfl rfl rfl rfl
   refine x_on hb105 hA ?_ rfl rfl rfl
   refine x_ld Tryz.underlying2 (hS.cell 0 rfl 2 _ rfl) hA (fun ac hA => ?_) rfl rfl rfl rfl rfl rfl
   refine x_on hb105 hA ?_ rfl rfl rfl
   refine x_v hA (r_geI rfl (hA.ev rfl) (hA.ev rfl)) rfl fun ac hA => ?_
   refine x_pickt hb105 hA (fun ac hA => ?_) rfl rfl rfl rfl rfl rfl
   refine x_m hA rfl fun ac hA => ?_
   refine bcase (b := decide (-1099511627776 ≤ a0.f2)) (fun hb106 => ?_) fun hb106 => ?_
   ·replace hF := ift hb106 hF
    refine x_on hb106 hA ?_ rfl rfl rfl
    refine x_fab fa37_2 hA (fun ac hA => ?_) rfl rfl rfl rfl rfl
    refine x_on hb106 hA ?_ rfl rfl rfl
    refine x_ld Tryz.underlying2 (hS.cell 0 rfl 2 _ rfl) hA (fun ac hA => ?_) rfl rfl rfl rfl rfl rfl
    refine x_on hb106 hA ?_ rfl rfl rfl
    refine x_v hA (r_leI rfl (hA.ev rfl) (hA.ev rfl)) rfl fun ac hA => ?_
    refine x_pickt hb106 hA (fun ac hA => ?_) rfl rfl rfl rfl rfl rfl
    refine x_m hA rfl fun ac hA => ?_
    refine bcase (b := decide (a0.f2 ≤ 1099511627776)) (fun hb107 => ?_) fun hb107 => ?_
    ·replace hF := ift hb107 hF
     refine x_on hb107 hA ?_ rfl rfl rfl
     refine x_fab fa37_3 hA (fun ac hA => ?_) rfl rfl rfl rfl rfl
     refine x_on hb107 hA ?_ rfl rfl rfl
     refine x_ld Tryz.underlying9 (hS.cell 0 rfl 3 _ rfl) hA (fun ac hA => ?_) rfl rfl rfl rfl rfl rfl
     refine x_on hb107 hA ?_ rfl rfl rfl
     refine x_v hA (r_lenS Tryz.underlying9 rfl (hA.ev rfl)) rfl fun ac hA => ?_
     refine x_on hb107 hA ?_ rfl rfl rfl
     refine x_v hA (r_leI rfl (hA.ev rfl) (hA.ev rfl)) rfl fun ac hA => ?_
     refine x_pickt hb107 hA (fun ac hA => ?_) rfl rfl rfl rfl rfl rfl
     refine x_m hA rfl fun ac hA => ?_
     refine bcase (b := decide ((a0.f3.length : Int) ≤ 32)) (fun hb108 => ?_) fun hb108 => ?_
     ·replace hF := ift hb108 hF
      refine x_on hb108 hA ?_ rfl rfl rfl
      refine x_fab fa37_0 hA (fun ac hA => ?_) rfl rfl rfl rfl rfl
      refine x_on hb108 hA ?_ rfl rfl rfl
      refine x_ld Tryz.underlying34 (hS.cell 0 rfl 0 _ rfl) hA (fun ac hA => ?_) rfl rfl rfl rfl rfl rfl
      refine x_on hb108 hA ?_ rfl rfl rfl
      refine x_v hA (r_ltI rfl (hA.ev rfl) (hA.ev rfl)) rfl fun ac hA => ?_
      refine x_pickt hb108 hA (fun ac hA => ?_) rfl rfl rfl rfl rfl rfl
      refine x_m hA rfl fun ac hA => ?_
      refine wn (hK103 _ _ ?_)
      refine wp_ret ?_
      replace hS := hS.drop 0
      cases hF
      refine hQ _ _ ?_
      refine lv Tryz.results25 hA rfl ?_
      exact ⟨rfl, hS⟩
     replace hF := iff' hb108 hF
     refine x_off hb108 hA (fun ac hA => ?_) rfl rfl rfl rfl rfl
     refine x_off hb108 hA (fun ac hA => ?_) rfl rfl rfl rfl rfl
     refine x_off hb108 hA (fun ac hA => ?_) rfl rfl rfl rfl rfl
     refine x_pickf hb108 hA (fun ac hA => ?_) rfl rfl rfl rfl rfl rfl
     refine x_m hA rfl fun ac hA => ?_
     refine wn (hK103 _ _ ?_)
     refine wp_ret ?_
     replace hS := hS.drop 0
     cases hF
     refine hQ _ _ ?_
     refine lv Tryz.results25 hA rfl ?_
     exact ⟨rfl, hS⟩
    replace hF := iff' hb107 hF
    refine x_off hb107 hA (fun ac hA => ?_) rfl rfl rfl rfl rfl
    refine x_off hb107 hA (fun ac hA => ?_) rfl rfl rfl rfl rfl
    refine x_off hb107 hA (fun ac hA => ?_) rfl rfl rfl rfl rfl
    refine x_off hb107 hA (fun ac hA => ?_) rfl rfl rfl rfl rfl
    refine x_pickf hb107 hA (fun ac hA => ?_) rfl rfl rfl rfl rfl rfl
    refine x_m hA rfl fun ac hA => ?_
    refine x_off rfl hA (fun ac hA => ?_) rfl rfl rfl rfl rfl
    refine x_off rfl hA (fun ac hA => ?_) rfl rfl rfl rfl rfl
    refine x_off rfl hA (fun ac hA => ?_) rfl rfl rfl rfl rfl
    refine x_pickf rfl hA (fun ac hA => ?_) rfl rfl rfl rfl rfl rfl
    refine x_m hA rfl fun ac hA => ?_
    refine wn (hK103 _ _ ?_)
    refine wp_ret ?_
    replace hS := hS.drop 0
    cases hF
    refine hQ _ _ ?_
    refine lv Tryz.results25 hA rfl ?_
    exact ⟨rfl, hS⟩
   replace hF := iff' hb106 hF
   refine x_off hb106 hA (fun ac hA => ?_) rfl rfl rfl rfl rfl
   refine x_off hb106 hA (fun ac hA => ?_) rfl rfl rfl rfl rfl
   refine x_off hb106 hA (fun ac hA => ?_) rfl rfl rfl rfl rfl
   refine x_pickf hb106 hA (fun ac hA => ?_) rfl rfl rfl rfl rfl rfl
   refine x_m hA rfl fun ac hA => ?_
   refine x_off rfl hA (fun ac hA => ?_) rfl rfl rfl rfl rfl
   refine x_off rfl hA (fun ac hA => ?_) rfl rfl rfl rfl rfl
   refine x_off rfl hA (fun ac hA => ?_) rfl rfl rfl rfl rfl
   refine x_off rfl hA (fun ac hA => ?_) rfl rfl rfl rfl rfl
   refine x_pickf rfl hA (fun ac hA => ?_) rfl rfl rfl rfl rfl rfl
   refine x_m hA rfl fun ac hA => ?_
   refine x_off rfl hA (fun ac hA => ?_) rfl rfl rfl rfl rfl
   refine x_off rfl hA (fun ac hA => ?_) rfl rfl rfl rfl rfl
   refine x_off rfl hA (fun ac hA => ?_) rfl rfl rfl rfl rfl
   refine x_pickf rfl hA (fun ac hA => ?_) rfl rfl rfl rfl rfl rfl
   refine x_m hA rfl fun ac hA => ?_
   refine wn (hK103 _ _ ?_)
   refine wp_ret ?_
   replace hS := hS.drop 0
   cases hF
   refine hQ _ _ ?_
   refine lv Tryz.results25 hA rfl ?_
   exact ⟨rfl, hS⟩
  replace hF := iff' hb105 hF
  refine x_off hb105 hA (fun ac hA => ?_) rfl rfl rfl rfl rfl
  refine x_off hb105 hA (fun ac hA => ?_) rfl rfl rfl rfl rfl
  refine x_off hb105 hA (fun ac hA => ?_) rfl rfl rfl rfl rfl
  refine x_pickf hb105 hA (fun ac hA => ?_) rfl rfl rfl rfl rfl rfl
  refine x_m hA rfl fun ac hA => ?_
  refine x_off rfl hA (fun ac hA => ?_) rfl rfl rfl rfl rfl
  refine x_off rfl hA (fun ac hA => ?_) rfl rfl rfl rfl rfl
  refine x_off rfl hA (fun ac hA => ?_) rfl rfl rfl rfl rfl
  refine x_pickf rfl hA (fun ac hA => ?_) rfl rfl rfl rfl rfl rfl
  refine x_m hA rfl fun ac hA => ?_
  refine x_off rfl hA (fun ac hA => ?_) rfl rfl rfl rfl rfl
  refine x_off rfl hA (fun ac hA => ?_) rfl rfl rfl rfl rfl
  refine x_off rfl hA (fun ac hA => ?_) rfl rfl rfl rfl rfl
  refine x_off rfl hA (fun ac hA => ?_) rfl rfl rfl rfl rfl
  refine x_pickf rfl hA (fun ac hA => ?_) rfl rfl rfl rfl rfl rfl
  refine x_m hA rfl fun ac hA => ?_
  refine x_off rfl hA (fun ac hA => ?_) rfl rfl rfl rfl rfl
  refine x_off rfl hA (fun ac hA => ?_) rfl rfl rfl rfl rfl
  refine x_off rfl hA (fun ac hA => ?_) rfl rfl rfl rfl rfl
  refine x_pickf rfl hA (fun ac hA => ?_) rfl rfl rfl rfl rfl rfl
  refine x_m hA rfl fun ac hA => ?_
  refine wn (hK103 _ _ ?_)
  refine wp_ret ?_
  replace hS := hS.drop 0
  cases hF
  refine hQ _ _ ?_
  refine lv Tryz.results25 hA rfl ?_
  exact ⟨rfl, hS⟩
 replace hF := iff' hb104 hF
 refine x_off hb104 hA (fun ac hA => ?_) rfl rfl rfl rfl rfl
 refine x_off hb104 hA (fun ac hA => ?_) rfl rfl rfl rfl rfl
 refine x_off hb104 hA (fun ac hA => ?_) rfl rfl rfl rfl rfl
 refine x_off hb104 hA (fun ac hA => ?_) rfl rfl rfl rfl rfl
 refine x_pickf hb104 hA (fun ac hA => ?_) rfl rfl rfl rfl rfl rfl
 refine x_m hA rfl fun ac hA => ?_
 refine x_off rfl hA (fun ac hA => ?_) rfl rfl rfl rfl rfl
 refine x_off rfl hA (fun ac hA => ?_) rfl rfl rfl rfl rfl
 refine x_off rfl hA (fun ac hA => ?_) rfl rfl rfl rfl rfl
 refine x_pickf rfl hA (fun ac hA => ?_) rfl rfl rfl rfl rfl rfl
 refine x_m hA rfl fun ac hA => ?_
 refine x_off rfl hA (fun ac hA => ?_) rfl rfl rfl rfl rfl
 refine x_off rfl hA (fun ac hA => ?_) rfl rfl rfl rfl rfl
 refine x_off rfl hA (fun ac hA => ?_) rfl rfl rfl rfl rfl
 refine x_pickf rfl hA (fun ac hA => ?_) rfl rfl rfl rfl rfl rfl
 refine x_m hA rfl fun ac hA => ?_
 refine x_off rfl hA (fun ac hA => ?_) rfl rfl rfl rfl rfl
 refine x_off rfl hA (fun ac hA => ?_) rfl rfl rfl rfl rfl
 refine x_off rfl hA (fun ac hA => ?_) rfl rfl rfl rfl rfl
 refine x_off rfl hA (fun ac hA => ?_) rfl rfl rfl rfl rfl
 refine x_pickf rfl hA (fun ac hA => ?_) rfl rfl rfl rfl rfl rfl
 refine x_m hA rfl fun ac hA => ?_
 refine x_off rfl hA (fun ac hA => ?_) rfl rfl rfl rfl rfl
 refine x_off rfl hA (fun ac hA => ?_) rfl rfl rfl rfl rfl
 refine x_off rfl hA (fun ac hA => ?_) rfl rfl rfl rfl rfl
 refine x_pickf rfl hA (fun ac hA => ?_) rfl rfl rfl rfl rfl rfl
 refine x_m hA rfl fun ac hA => ?_
 refine wn (hK103 _ _ ?_)
 refine wp_ret ?_
 replace hS := hS.drop 0
 cases hF
 refine hQ _ _ ?_
 refine lv Tryz.results25 hA rfl ?_
 exact ⟨rfl, hS⟩
theorem F_r06_Form {r : World} {L : List HP} {w : World} (a0 : S37) (a1 : Int) {y : (Bool)} (hF : r06_Form a0 a1 = some y) (hS : SH r (L) w) :
  Ret Tryz.prog 11 #[.agg #[.int .u64 a0.f0, .int .i64 a0.f1, .int .i64 a0.f2, str a0.f3, .float .f64 a0.f4], .int .i64 a1] w fun v w' => v = .bool y ∧ SH r (L) w' := by
 refine enter Tryz.func11 rfl Tryz.ntmps11 [(0, .agg #[.int .u64 a0.f0, .int .i64 a0.f1, .int .i64 a0.f2, str a0.f3, .float .f64 a0.f4]), (1, .int .i64 a1)] rfl (by simp) ?_
 intro ac hA Qf hQ hQn
 unfold r06_Form at hF
 refine ws fun K101 hK101 => ?_
 refine x_box hA hS (fun g102 ac w hS hA => ?_) rfl rfl rfl rfl rfl rfl
 refine x_m hA rfl fun ac hA => ?_
 refine wn (hK101 _ _ ?_)
 refine ws fun K103 hK103 => ?_
 refine x_fab fa37_1 hA (fun ac hA => ?_) rfl rfl rfl rfl rfl
 refine x_ld Tryz.underlying3 (hS.cell 0 rfl 1 _ rfl) hA (fun ac hA => ?_) rfl rfl rfl rfl rfl rfl
 refine x_v hA (r_geI rfl (hA.ev rfl) (hA.ev rfl)) rfl fun ac hA => ?_
 refine x_m hA rfl fun ac hA => ?_
 refine bcase (b := decide (0 ≤ a0.f1)) (fun hb104 => ?_) fun hb104 => ?_
 ·replace hF := ift hb104 hF
  refine x_on hb104 hA ?_ rfl rfl rfl
  refine x_fab fa37_1 hA (fun ac hA => ?_) rfl rfl rfl rfl rfl
  refine x_on hb104 hA ?_ rfl rfl rfl
  refine x_ld Tryz.underlying3 (hS.cell 0 rfl 1 _ rfl) hA (fun ac hA => ?_) rfl rfl rfl rfl rfl rfl
  refine x_on hb104 hA ?_ rfl rfl rfl
  refine x_m hA rfl fun ac hA => ?_
  refine x_on hb104 hA ?_ rfl rfl rfl
  refine x_v hA (r_ltI rfl (hA.ev rfl) (hA.ev rfl)) rfl fun ac hA => ?_
  refine x_pickt hb104 hA (fun ac hA => ?_) rfl rfl rfl rfl rfl rfl
  refine x_m hA rfl fun ac hA => ?_
  refine bcase (b := decide (a0.f1 < a1)) (fun hb105 => ?_) fun hb105 => ?_
  ·replace hF := ift hb105 hF
   refine x_on hb105 hA ?_ rfl rfl rfl
   refine x_fab fa37_2 hA (fun ac hA => ?_) rfl rfl rfl rfl rfl
   refine x_on hb105 hA ?_ rfl rfl rfl
   refine x_ld Tryz.underlying2 (hS.cell 0 rfl 2 _ rfl) hA (fun ac hA => ?_) rfl rfl rfl rfl rfl rfl
   refine x_on hb105 hA ?_ rfl rfl rfl
   refine x_v hA (r_geI rfl (hA.ev rfl) (hA.ev rfl)) rfl fun ac hA => ?_
   refine x_pickt hb105 hA (fun ac hA => ?_) rfl rfl rfl rfl rfl rfl
   refine x_m hA rfl fun ac hA => ?_
   refine bcase (b := decide (-1099511627776 ≤ a0.f2)) (fun hb106 => ?_) fun hb106 => ?_
   ·replace hF := ift hb106 hF
    refine x_on hb106 hA ?_ rfl rfl rfl
    refine x_fab fa37_2 hA (fun ac hA => ?_) rfl rfl rfl rfl rfl
    refine x_on hb106 hA ?_ rfl rfl rfl
    refine x_ld Tryz.underlying2 (hS.cell 0 rfl 2 _ rfl) hA (fun ac hA => ?_) rfl rfl rfl rfl rfl rfl
    refine x_on hb106 hA ?_ rfl rfl rfl
    refine x_v hA (r_leI rfl (hA.ev rfl) (hA.ev rfl)) rfl fun ac hA => ?_
    refine x_pickt hb106 hA (fun ac hA => ?_) rfl rfl rfl rfl rfl rfl
    refine x_m hA rfl fun ac hA => ?_
    refine bcase (b := decide (a0.f2 ≤ 1099511627776)) (fun hb107 => ?_) fun hb107 => ?_
    ·replace hF := ift hb107 hF
     refine x_on hb107 hA ?_ rfl rfl rfl
     refine x_fab fa37_3 hA (fun ac hA => ?_) rfl rfl rfl rfl rfl
     refine x_on hb107 hA ?_ rfl rfl rfl
     refine x_ld Tryz.underlying9 (hS.cell 0 rfl 3 _ rfl) hA (fun ac hA => ?_) rfl rfl rfl rfl rfl rfl
     refine x_on hb107 hA ?_ rfl rfl rfl
     refine x_v hA (r_lenS Tryz.underlying9 rfl (hA.ev rfl)) rfl fun ac hA => ?_
     refine x_on hb107 hA ?_ rfl rfl rfl
     refine x_v hA (r_leI rfl (hA.ev rfl) (hA.ev rfl)) rfl fun ac hA => ?_
     refine x_pickt hb107 hA (fun ac hA => ?_) rfl rfl rfl rfl rfl rfl
     refine x_m hA rfl fun ac hA => ?_
     refine bcase (b := decide ((a0.f3.length : Int) ≤ 32)) (fun hb108 => ?_) fun hb108 => ?_
     ·replace hF := ift hb108 hF
      refine x_on hb108 hA ?_ rfl rfl rfl
      refine x_fab fa37_0 hA (fun ac hA => ?_) rfl rfl rfl rfl rfl
      refine x_on hb108 hA ?_ rfl rfl rfl
      refine x_ld Tryz.underlying34 (hS.cell 0 rfl 0 _ rfl) hA (fun ac hA => ?_) rfl rfl rfl rfl rfl rfl
      refine x_on hb108 hA ?_ rfl rfl rfl
      refine x_v hA (r_ltI rfl (hA.ev rfl) (hA.ev rfl)) rfl fun ac hA => ?_
      refine x_pickt hb108 hA (fun ac hA => ?_) rfl rfl rfl rfl rfl rfl
      refine x_m hA rfl fun ac hA => ?_
      refine wn (hK103 _ _ ?_)
      refine wp_ret ?_
      replace hS := hS.drop 0
      cases hF
      refine hQ _ _ ?_
      refine lv Tryz.results11 hA rfl ?_
      exact ⟨rfl, hS⟩
     replace hF := iff' hb108 hF
     refine x_off hb108 hA (fun ac hA => ?_) rfl rfl rfl rfl rfl
     refine x_off hb108 hA (fun ac hA => ?_) rfl rfl rfl rfl rfl
     refine x_off hb108 hA (fun ac hA => ?_) rfl rfl rfl rfl rfl
     refine x_pickf hb108 hA (fun ac hA => ?_) rfl rfl rfl rfl rfl rfl
     refine x_m hA rfl fun ac hA => ?_
     refine wn (hK103 _ _ ?_)
     refine wp_ret ?_
     replace hS := hS.drop 0
     cases hF
     refine hQ _ _ ?_
     refine lv Tryz.results11 hA rfl ?_
     exact ⟨rfl, hS⟩
    replace hF := iff' hb107 hF
    refine x_off hb107 hA (fun ac hA => ?_) rfl rfl rfl rfl rfl
    refine x_off hb107 hA (fun ac hA => ?_) rfl rfl rfl rfl rfl
    refine x_off hb107 hA (fun ac hA => ?_) rfl rfl rfl rfl rfl
    refine x_off hb107 hA (fun ac hA => ?_) rfl rfl rfl rfl rfl
    refine x_pickf hb107 hA (fun ac hA => ?_) rfl rfl rfl rfl rfl rfl
    refine x_m hA rfl fun ac hA => ?_
    refine x_off rfl hA (fun ac hA => ?_) rfl rfl rfl rfl rfl
    refine x_off rfl hA (fun ac hA => ?_) rfl rfl rfl rfl rfl
    refine x_off rfl hA (fun ac hA => ?_) rfl rfl rfl rfl rfl
    refine x_pickf rfl hA (fun ac hA => ?_) rfl rfl rfl rfl rfl rfl
    refine x_m hA rfl fun ac hA => ?_
    refine wn (hK103 _ _ ?_)
    refine wp_ret ?_
    replace hS := hS.drop 0
    cases hF
    refine hQ _ _ ?_
    refine lv Tryz.results11 hA rfl ?_
    exact ⟨rfl, hS⟩
   replace hF := iff' hb106 hF
   refine x_off hb106 hA (fun ac hA => ?_) rfl rfl rfl rfl rfl
   refine x_off hb106 hA (fun ac hA => ?_) rfl rfl rfl rfl rfl
   refine x_off hb106 hA (fun ac hA => ?_) rfl rfl rfl rfl rfl
   refine x_pickf hb106 hA (fun ac hA => ?_) rfl rfl rfl rfl rfl rfl
   refine x_m hA rfl fun ac hA => ?_
   refine x_off rfl hA (fun ac hA => ?_) rfl rfl rfl rfl rfl
   refine x_off rfl hA (fun ac hA => ?_) rfl rfl rfl rfl rfl
   refine x_off rfl hA (fun ac hA => ?_) rfl rfl rfl rfl rfl
   refine x_off rfl hA (fun ac hA => ?_) rfl rfl rfl rfl rfl
   refine x_pickf rfl hA (fun ac hA => ?_) rfl rfl rfl rfl rfl rfl
   refine x_m hA rfl fun ac hA => ?_
   refine x_off rfl hA (fun ac hA => ?_) rfl rfl rfl rfl rfl
   refine x_off rfl hA (fun ac hA => ?_) rfl rfl rfl rfl rfl
   refine x_off rfl hA (fun ac hA => ?_) rfl rfl rfl rfl rfl
   refine x_pickf rfl hA (fun ac hA => ?_) rfl rfl rfl rfl rfl rfl
   refine x_m hA rfl fun ac hA => ?_
   refine wn (hK103 _ _ ?_)
   refine wp_ret ?_
   replace hS := hS.drop 0
   cases hF
   refine hQ _ _ ?_
   refine lv Tryz.results11 hA rfl ?_
   exact ⟨rfl, hS⟩
  replace hF := iff' hb105 hF
  refine x_off hb105 hA (fun ac hA => ?_) rfl rfl rfl rfl rfl
  refine x_off hb105 hA (fun ac hA => ?_) rfl rfl rfl rfl rfl
  refine x_off hb105 hA (fun ac hA => ?_) rfl rfl rfl rfl rfl
  refine x_pickf hb105 hA (fun ac hA => ?_) rfl rfl rfl rfl rfl rfl
  refine x_m hA rfl fun ac hA => ?_
  refine x_off rfl hA (fun ac hA => ?_) rfl rfl rfl rfl rfl
  refine x_off rfl hA (fun ac hA => ?_) rfl rfl rfl rfl rfl
  refine x_off rfl hA (fun ac hA => ?_) rfl rfl rfl rfl rfl
  refine x_pickf rfl hA (fun ac hA => ?_) rfl rfl rfl rfl rfl rfl
  refine x_m hA rfl fun ac hA => ?_
  refine x_off rfl hA (fun ac hA => ?_) rfl rfl rfl rfl rfl
  refine x_off rfl hA (fun ac hA => ?_) rfl rfl rfl rfl rfl
  refine x_off rfl hA (fun ac hA => ?_) rfl rfl rfl rfl rfl
  refine x_off rfl hA (fun ac hA => ?_) rfl rfl rfl rfl rfl
  refine x_pickf rfl hA (fun ac hA => ?_) rfl rfl rfl rfl rfl rfl
  refine x_m hA rfl fun ac hA => ?_
  refine x_off rfl hA (fun ac hA => ?_) rfl rfl rfl rfl rfl
  refine x_off rfl hA (fun ac hA => ?_) rfl rfl rfl rfl rfl
  refine x_off rfl hA (fun ac hA => ?_) rfl rfl rfl rfl rfl
  refine x_pickf rfl hA (fun ac hA => ?_) rfl rfl rfl rfl rfl rfl
  refine x_m hA rfl fun ac hA => ?_
  refine wn (hK103 _ _ ?_)
  refine wp_ret ?_
  replace hS := hS.drop 0
  cases hF
  refine hQ _ _ ?_
  refine lv Tryz.results11 hA rfl ?_
  exact ⟨rfl, hS⟩
 replace hF := iff' hb104 hF
 refine x_off hb104 hA (fun ac hA => ?_) rfl rfl rfl rfl rfl
 refine x_off hb104 hA (fun ac hA => ?_) rfl rfl rfl rfl rfl
 refine x_off hb104 hA (fun ac hA => ?_) rfl rfl rfl rfl rfl
 refine x_off hb104 hA (fun ac hA => ?_) rfl rfl rfl rfl rfl
 refine x_pickf hb104 hA (fun ac hA => ?_) rfl rfl rfl rfl rfl rfl
 refine x_m hA rfl fun ac hA => ?_
 refine x_off rfl hA (fun ac hA => ?_) rfl rfl rfl rfl rfl
 refine x_off rfl hA (fun ac hA => ?_) rfl rfl rfl rfl rfl
 refine x_off rfl hA (fun ac hA => ?_) rfl rfl rfl rfl rfl
 refine x_pickf rfl hA (fun ac hA => ?_) rfl rfl rfl rfl rfl rfl
 refine x_m hA rfl fun ac hA => ?_
 refine x_off rfl hA (fun ac hA => ?_) rfl rfl rfl rfl rfl
 refine x_off rfl hA (fun ac hA => ?_) rfl rfl rfl rfl rfl
 refine x_off rfl hA (fun ac hA => ?_) rfl rfl rfl rfl rfl
 refine x_pickf rfl hA (fun ac hA => ?_) rfl rfl rfl rfl rfl rfl
 refine x_m hA rfl fun ac hA => ?_
 refine x_off rfl hA (fun ac hA => ?_) rfl rfl rfl rfl rfl
 refine x_off rfl hA (fun ac hA => ?_) rfl rfl rfl rfl rfl
 refine x_off rfl hA (fun ac hA => ?_) rfl rfl rfl rfl rfl
 refine x_off rfl hA (fun ac hA => ?_) rfl rfl rfl rfl rfl
 refine x_pickf rfl hA (fun ac hA => ?_) rfl rfl rfl rfl rfl rfl
 refine x_m hA rfl fun ac hA => ?_
 refine x_off rfl hA (fun ac hA => ?_) rfl rfl rfl rfl rfl
 refine x_off rfl hA (fun ac hA => ?_) rfl rfl rfl rfl rfl
 refine x_off rfl hA (fun ac hA => ?_) rfl rfl rfl rfl rfl
 refine x_pickf rfl hA (fun ac hA => ?_) rfl rfl rfl rfl rfl rfl
 refine x_m hA rfl fun ac hA => ?_
 refine wn (hK103 _ _ ?_)
 refine wp_ret ?_
 replace hS := hS.drop 0
 cases hF
 refine hQ _ _ ?_
 refine lv Tryz.results11 hA rfl ?_
 exact ⟨rfl, hS⟩
theorem F_r06_Same {r : World} {L : List HP} {w : World} (a0 : S37) (a1 : S37) {y : (Bool)} (hF : r06_Same a0 a1 = some y) (hS : SH r (L) w) :
  Ret Tryz.prog 31 #[.agg #[.int .u64 a0.f0, .int .i64 a0.f1, .int .i64 a0.f2, str a0.f3, .float .f64 a0.f4], .agg #[.int .u64 a1.f0, .int .i64 a1.f1, .int .i64 a1.f2, str a1.f3, .float .f64 a1.f4]] w fun v w' => v = .bool y ∧ SH r (L) w' := by
 refine enter Tryz.func31 rfl Tryz.ntmps31 [(0, .agg #[.int .u64 a0.f0, .int .i64 a0.f1, .int .i64 a0.f2, str a0.f3, .float .f64 a0.f4]), (1, .agg #[.int .u64 a1.f0, .int .i64 a1.f1, .int .i64 a1.f2, str a1.f3, .float .f64 a1.f4])] rfl (by simp) ?_
 intro ac hA Qf hQ hQn
 unfold r06_Same at hF
 refine ws fun K101 hK101 => ?_
 refine x_box hA hS (fun g102 ac w hS hA => ?_) rfl rfl rfl rfl rfl rfl
 refine x_box hA hS (fun g103 ac w hS hA => ?_) rfl rfl rfl rfl rfl rfl
 refine x_m hA rfl fun ac hA => ?_
 refine wn (hK101 _ _ ?_)
 refine ws fun K104 hK104 => ?_
 refine x_fab fa37_0 hA (fun ac hA => ?_) rfl rfl rfl rfl rfl
 refine x_ld Tryz.underlying34 (hS.cell 1 rfl 0 _ rfl) hA (fun ac hA => ?_) rfl rfl rfl rfl rfl rfl
 refine x_fab fa37_0 hA (fun ac hA => ?_) rfl rfl rfl rfl rfl
 refine x_ld Tryz.underlying34 (hS.cell 0 rfl 0 _ rfl) hA (fun ac hA => ?_) rfl rfl rfl rfl rfl rfl
 refine x_v hA (r_eqI rfl (hA.ev rfl) (hA.ev rfl)) rfl fun ac hA => ?_
 refine x_m hA rfl fun ac hA => ?_
 refine bcase (b := a0.f0 == a1.f0) (fun hb105 => ?_) fun hb105 => ?_
 ·replace hF := ift hb105 hF
  refine x_on hb105 hA ?_ rfl rfl rfl
  refine x_fab fa37_1 hA (fun ac hA => ?_) rfl rfl rfl rfl rfl
  refine x_on hb105 hA ?_ rfl rfl rfl
  refine x_ld Tryz.underlying3 (hS.cell 1 rfl 1 _ rfl) hA (fun ac hA => ?_) rfl rfl rfl rfl rfl rfl
  refine x_on hb105 hA ?_ rfl rfl rfl
  refine x_fab fa37_1 hA (fun ac hA => ?_) rfl rfl rfl rfl rfl
  refine x_on hb105 hA ?_ rfl rfl rfl
  refine x_ld Tryz.underlying3 (hS.cell 0 rfl 1 _ rfl) hA (fun ac hA => ?_) rfl rfl rfl rfl rfl rfl
  refine x_on hb105 hA ?_ rfl rfl rfl
  refine x_v hA (r_eqI rfl (hA.ev rfl) (hA.ev rfl)) rfl fun ac hA => ?_
  refine x_pickt hb105 hA (fun ac hA => ?_) rfl rfl rfl rfl rfl rfl
  refine x_m hA rfl fun ac hA => ?_
  refine bcase (b := a0.f1 == a1.f1) (fun hb106 => ?_) fun hb106 => ?_
  ·replace hF := ift hb106 hF
   refine x_on hb106 hA ?_ rfl rfl rfl
   refine x_fab fa37_2 hA (fun ac hA => ?_) rfl rfl rfl rfl rfl
   refine x_on hb106 hA ?_ rfl rfl rfl
   refine x_ld Tryz.underlying2 (hS.cell 1 rfl 2 _ rfl) hA (fun ac hA => ?_) rfl rfl rfl rfl rfl rfl
   refine x_on hb106 hA ?_ rfl rfl rfl
   refine x_fab fa37_2 hA (fun ac hA => ?_) rfl rfl rfl rfl rfl
   refine x_on hb106 hA ?_ rfl rfl rfl
   refine x_ld Tryz.underlying2 (hS.cell 0 rfl 2 _ rfl) hA (fun ac hA => ?_) rfl rfl rfl rfl rfl rfl
   refine x_on hb106 hA ?_ rfl rfl rfl
   refine x_v hA (r_eqI rfl (hA.ev rfl) (hA.ev rfl)) rfl fun ac hA => ?_
   refine x_pickt hb106 hA (fun ac hA => ?_) rfl rfl rfl rfl rfl rfl
   refine x_m hA rfl fun ac hA => ?_
   refine bcase (b := a0.f2 == a1.f2) (fun hb107 => ?_) fun hb107 => ?_
   ·replace hF := ift hb107 hF
    refine x_on hb107 hA ?_ rfl rfl rfl
    refine x_fab fa37_3 hA (fun ac hA => ?_) rfl rfl rfl rfl rfl
    refine x_on hb107 hA ?_ rfl rfl rfl
    refine x_ld Tryz.underlying9 (hS.cell 1 rfl 3 _ rfl) hA (fun ac hA => ?_) rfl rfl rfl rfl rfl rfl
    refine x_on hb107 hA ?_ rfl rfl rfl
    refine x_fab fa37_3 hA (fun ac hA => ?_) rfl rfl rfl rfl rfl
    refine x_on hb107 hA ?_ rfl rfl rfl
    refine x_ld Tryz.underlying9 (hS.cell 0 rfl 3 _ rfl) hA (fun ac hA => ?_) rfl rfl rfl rfl rfl rfl
    refine x_on hb107 hA ?_ rfl rfl rfl
    refine x_v hA (r_eqS rfl (hA.ev rfl) (hA.ev rfl)) rfl fun ac hA => ?_
    refine x_pickt hb107 hA (fun ac hA => ?_) rfl rfl rfl rfl rfl rfl
    refine x_m hA rfl fun ac hA => ?_
    refine bcase (b := a0.f3 == a1.f3) (fun hb108 => ?_) fun hb108 => ?_
    ·replace hF := ift hb108 hF
     refine x_on hb108 hA ?_ rfl rfl rfl
     refine x_fab fa37_4 hA (fun ac hA => ?_) rfl rfl rfl rfl rfl
     refine x_on hb108 hA ?_ rfl rfl rfl
     refine x_ld Tryz.underlying35 (hS.cell 1 rfl 4 _ rfl) hA (fun ac hA => ?_) rfl rfl rfl rfl rfl rfl
     refine x_on hb108 hA ?_ rfl rfl rfl
     refine x_fab fa37_4 hA (fun ac hA => ?_) rfl rfl rfl rfl rfl
     refine x_on hb108 hA ?_ rfl rfl rfl
     refine x_ld Tryz.underlying35 (hS.cell 0 rfl 4 _ rfl) hA (fun ac hA => ?_) rfl rfl rfl rfl rfl rfl
     refine x_on hb108 hA ?_ rfl rfl rfl
     obtain ⟨y109, h110, hF⟩ := bnd hF
     refine x_call en61 hA (F_r01_Same (L := blk g103 37 [.int .u64 a1.f0, .int .i64 a1.f1, .int .i64 a1.f2, str a1.f3, .float .f64 a1.f4] :: blk g102 37 [.int .u64 a0.f0, .int .i64 a0.f1, .int .i64 a0.f2, str a0.f3, .float .f64 a0.f4] :: L) a0.f4 a1.f4 h110 hS) (fun v ac w hR hA => ?_) rfl rfl rfl rfl rfl
     obtain ⟨rfl, hS⟩ := hR
     refine x_pickt hb108 hA (fun ac hA => ?_) rfl rfl rfl rfl rfl rfl
     refine x_m hA rfl fun ac hA => ?_
     refine wn (hK104 _ _ ?_)
     refine wp_ret ?_
     replace hS := hS.drop 0
     replace hS := hS.drop 0
     cases hF
     refine hQ _ _ ?_
     refine lv Tryz.results31 hA rfl ?_
     exact ⟨rfl, hS⟩
    replace hF := iff' hb108 hF
    refine x_off hb108 hA (fun ac hA => ?_) rfl rfl rfl rfl rfl
    refine x_off hb108 hA (fun ac hA => ?_) rfl rfl rfl rfl rfl
    refine x_off hb108 hA (fun ac hA => ?_) rfl rfl rfl rfl rfl
    refine x_off hb108 hA (fun ac hA => ?_) rfl rfl rfl rfl rfl
    refine x_off hb108 hA (fun ac hA => ?_) rfl rfl rfl rfl rfl
    refine x_pickf hb108 hA (fun ac hA => ?_) rfl rfl rfl rfl rfl rfl
    refine x_m hA rfl fun ac hA => ?_
    refine wn (hK104 _ _ ?_)
    refine wp_ret ?_
    replace hS := hS.drop 0
    replace hS := hS.drop 0
    cases hF
    refine hQ _ _ ?_
    refine lv Tryz.results31 hA rfl ?_
    exact ⟨rfl, hS⟩
   replace hF := iff' hb107 hF
   refine x_off hb107 hA (fun ac hA => ?_) rfl rfl rfl rfl rfl
   refine x_off hb107 hA (fun ac hA => ?_) rfl rfl rfl rfl rfl
   refine x_off hb107 hA (fun ac hA => ?_) rfl rfl rfl rfl rfl
   refine x_off hb107 hA (fun ac hA => ?_) rfl rfl rfl rfl rfl
   refine x_off hb107 hA (fun ac hA => ?_) rfl rfl rfl rfl rfl
   refine x_pickf hb107 hA (fun ac hA => ?_) rfl rfl rfl rfl rfl rfl
   refine x_m hA rfl fun ac hA => ?_
   refine x_off rfl hA (fun ac hA => ?_) rfl rfl rfl rfl rfl
   refine x_off rfl hA (fun ac hA => ?_) rfl rfl rfl rfl rfl
   refine x_off rfl hA (fun ac hA => ?_) rfl rfl rfl rfl rfl
   refine x_off rfl hA (fun ac hA => ?_) rfl rfl rfl rfl rfl
   refine x_off rfl hA (fun ac hA => ?_) rfl rfl rfl rfl rfl
   refine x_pickf rfl hA (fun ac hA => ?_) rfl rfl rfl rfl rfl rfl
   refine x_m hA rfl fun ac hA => ?_
   refine wn (hK104 _ _ ?_)
   refine wp_ret ?_
   replace hS := hS.drop 0
   replace hS := hS.drop 0
   cases hF
   refine hQ _ _ ?_
   refine lv Tryz.results31 hA rfl ?_
   exact ⟨rfl, hS⟩
  replace hF := iff' hb106 hF
  refine x_off hb106 hA (fun ac hA => ?_) rfl rfl rfl rfl rfl
  refine x_off hb106 hA (fun ac hA => ?_) rfl rfl rfl rfl rfl
  refine x_off hb106 hA (fun ac hA => ?_) rfl rfl rfl rfl rfl
  refine x_off hb106 hA (fun ac hA => ?_) rfl rfl rfl rfl rfl
  refine x_off hb106 hA (fun ac hA => ?_) rfl rfl rfl rfl rfl
  refine x_pickf hb106 hA (fun ac hA => ?_) rfl rfl rfl rfl rfl rfl
  refine x_m hA rfl fun ac hA => ?_
  refine x_off rfl hA (fun ac hA => ?_) rfl rfl rfl rfl rfl
  refine x_off rfl hA (fun ac hA => ?_) rfl rfl rfl rfl rfl
  refine x_off rfl hA (fun ac hA => ?_) rfl rfl rfl rfl rfl
  refine x_off rfl hA (fun ac hA => ?_) rfl rfl rfl rfl rfl
  refine x_off rfl hA (fun ac hA => ?_) rfl rfl rfl rfl rfl
  refine x_pickf rfl hA (fun ac hA => ?_) rfl rfl rfl rfl rfl rfl
  refine x_m hA rfl fun ac hA => ?_
  refine x_off rfl hA (fun ac hA => ?_) rfl rfl rfl rfl rfl
  refine x_off rfl hA (fun ac hA => ?_) rfl rfl rfl rfl rfl
  refine x_off rfl hA (fun ac hA => ?_) rfl rfl rfl rfl rfl
  refine x_off rfl hA (fun ac hA => ?_) rfl rfl rfl rfl rfl
  refine x_off rfl hA (fun ac hA => ?_) rfl rfl rfl rfl rfl
  refine x_pickf rfl hA (fun ac hA => ?_) rfl rfl rfl rfl rfl rfl
  refine x_m hA rfl fun ac hA => ?_
  refine wn (hK104 _ _ ?_)
  refine wp_ret ?_
  replace hS := hS.drop 0
  replace hS := hS.drop 0
  cases hF
  refine hQ _ _ ?_
  refine lv Tryz.results31 hA rfl ?_
  exact ⟨rfl, hS⟩
 replace hF := iff' hb105 hF
 refine x_off hb105 hA (fun ac hA => ?_) rfl rfl rfl rfl rfl
 refine x_off hb105 hA (fun ac hA => ?_) rfl rfl rfl rfl rfl
 refine x_off hb105 hA (fun ac hA => ?_) rfl rfl rfl rfl rfl
 refine x_off hb105 hA (fun ac hA => ?_) rfl rfl rfl rfl rfl
 refine x_off hb105 hA (fun ac hA => ?_) rfl rfl rfl rfl rfl
 refine x_pickf hb105 hA (fun ac hA => ?_) rfl rfl rfl rfl rfl rfl
 refine x_m hA rfl fun ac hA => ?_
 refine x_off rfl hA (fun ac hA => ?_) rfl rfl rfl rfl rfl
 refine x_off rfl hA (fun ac hA => ?_) rfl rfl rfl rfl rfl
 refine x_off rfl hA (fun ac hA => ?_) rfl rfl rfl rfl rfl
 refine x_off rfl hA (fun ac hA => ?_) rfl rfl rfl rfl rfl
 refine x_off rfl hA (fun ac hA => ?_) rfl rfl rfl rfl rfl
 refine x_pickf rfl hA (fun ac hA => ?_) rfl rfl rfl rfl rfl rfl
 refine x_m hA rfl fun ac hA => ?_
 refine x_off rfl hA (fun ac hA => ?_) rfl rfl rfl rfl rfl
 refine x_off rfl hA (fun ac hA => ?_) rfl rfl rfl rfl rfl
 refine x_off rfl hA (fun ac hA => ?_) rfl rfl rfl rfl rfl
 refine x_off rfl hA (fun ac hA => ?_) rfl rfl rfl rfl rfl
 refine x_off rfl hA (fun ac hA => ?_) rfl rfl rfl rfl rfl
 refine x_pickf rfl hA (fun ac hA => ?_) rfl rfl rfl rfl rfl rfl
 refine x_m hA rfl fun ac hA => ?_
 refine x_off rfl hA (fun ac hA => ?_) rfl rfl rfl rfl rfl
 refine x_off rfl hA (fun ac hA => ?_) rfl rfl rfl rfl rfl
 refine x_off rfl hA (fun ac hA => ?_) rfl rfl rfl rfl rfl
 refine x_off rfl hA (fun ac hA => ?_) rfl rfl rfl rfl rfl
 refine x_off rfl hA (fun ac hA => ?_) rfl rfl rfl rfl rfl
 refine x_pickf rfl hA (fun ac hA => ?_) rfl rfl rfl rfl rfl rfl
 refine x_m hA rfl fun ac hA => ?_
 refine wn (hK104 _ _ ?_)
 refine wp_ret ?_
 replace hS := hS.drop 0
 replace hS := hS.drop 0
 cases hF
 refine hQ _ _ ?_
 refine lv Tryz.results31 hA rfl ?_
 exact ⟨rfl, hS⟩
theorem F_r06_SameAll {r : World} {L : List HP} {w : World} (a0 : (List S37)) (a1 : (List S37)) (A0 : Option Addr) (n0 : Nat) (c0 : Nat) (A1 : Option Addr) (n1 : Nat) (c1 : Nat) {y : (Bool)} (hF : r06_SameAll a0 a1 = some y) (ha0 : RdL L k37 A0 n0 c0 a0) (ha1 : RdL L k37 A1 n1 c1 a1) (hS : SH r (L) w) :
  Ret Tryz.prog 9 #[.slice A0 n0 c0, .slice A1 n1 c1] w fun v w' => v = .bool y ∧ SH r (L) w' := by
 refine enter Tryz.func9 rfl Tryz.ntmps9 [(0, .slice A0 n0 c0), (1, .slice A1 n1 c1)] rfl (by simp) ?_
 intro ac hA Qf hQ hQn
 unfold r06_SameAll at hF
 refine ws fun K101 hK101 => ?_
 refine x_m hA rfl fun ac hA => ?_
 refine wn (hK101 _ _ ?_)
 refine wp_seq_k fun K102 hK102 => ?_
 refine ws fun K103 hK103 => ?_
 refine x_m hA rfl fun ac hA => ?_
 refine x_len Tryz.underlying23 (hS.rdl 0 ha0 rfl).2.1 hA (fun ac hA => ?_) rfl rfl rfl rfl rfl
 refine x_m hA rfl fun ac hA => ?_
 refine x_len Tryz.underlying23 (hS.rdl 0 ha1 rfl).2.1 hA (fun ac hA => ?_) rfl rfl rfl rfl rfl
 refine x_v hA (r_neI rfl (hA.ev rfl) (hA.ev rfl)) rfl fun ac hA => ?_
 refine wn (hK103 _ _ ?_)
 refine c_if hA rfl (fun hb104 => ?_) fun hb104 => ?_
 ·replace hF := ift hb104 hF
  refine ws fun K105 hK105 => ?_
  refine x_m hA rfl fun ac hA => ?_
  refine wn (hK105 _ _ ?_)
  refine wp_ret ?_
  cases hF
  refine hQ _ _ ?_
  refine lv Tryz.results9 hA rfl ?_
  exact ⟨rfl, hS⟩
 replace hF := iff' hb104 hF
 refine wp_skip ?_
 refine hK102 _ _ ?_
 refine wp_seq_k fun K106 hK106 => ?_
 refine ws fun K214 hK214 => ?_
 refine x_m hA rfl fun ac hA => ?_
 refine wn (hK214 _ _ ?_)
 refine wp_block_k fun Kx215 hKx215 => ?_
 have hb1 : r06_SameAll_b1 = some y → ∀ (ac : Act) (w : World), FR 27 [] ac [] → SH r (L) w → Kx215 ac w := by
  intro hF ac w hA hS
  unfold r06_SameAll_b1 at hF
  refine hKx215 _ _ ?_
  refine hK106 _ _ ?_
  refine ws fun K268 hK268 => ?_
  refine x_m hA rfl fun ac hA => ?_
  refine wn (hK268 _ _ ?_)
  refine wp_ret ?_
  cases hF
  refine hQ _ _ ?_
  refine lv Tryz.results9 hA rfl ?_
  exact ⟨rfl, hS⟩
 obtain ⟨t303, hl303, hF⟩ := bnd hF
 have hR303 := hF
 have hx303_0 : (.inl ()) = t303 → ∀ (ac : Act) (w : World), FR 27 [] ac [] → SH r (L) w → Kx215 ac w := by
  intro ht ac w hA hS
  subst ht
  replace hF : r06_SameAll_x1_0 = some y := hF
  unfold r06_SameAll_x1_0 at hF
  exact hb1 hF ac w (hA.sub _ rfl) hS
 refine wp_loop_fn hl303 (fun s ac w => FR 27 [] ac [(0, .slice A0 n0 c0), (1, .slice A1 n1 c1), (5, .int .i64 s)] ∧ SH r (L) w) ⟨hA.sub _ rfl, hS⟩ ?_
 intro N303 s303 o303 hF N303_ T303_ ac w hLab
 obtain ⟨x286, rfl⟩ : ∃ q, q = s303 := ⟨_, rfl⟩
 replace hF : r06_SameAll_l1 a0 a1 x286 = some o303 := hF
 unfold r06_SameAll_l1 at hF
 try dsimp only at hLab
 obtain ⟨hA, hS⟩ := hLab
 refine wp_seq_k fun K305 hK305 => ?_
 refine ws fun K306 hK306 => ?_
 refine x_m hA rfl fun ac hA => ?_
 refine x_m hA rfl fun ac hA => ?_
 refine x_len Tryz.underlying23 (hS.rdl 0 ha0 rfl).2.1 hA (fun ac hA => ?_) rfl rfl rfl rfl rfl
 refine x_v hA (r_ltI rfl (hA.ev rfl) (hA.ev rfl)) rfl fun ac hA => ?_
 refine wn (hK306 _ _ ?_)
 refine c_if hA rfl (fun hb307 => ?_) fun hb307 => ?_
 ·replace hF := ift hb307 hF
  refine wp_skip ?_
  refine hK305 _ _ ?_
  refine wp_seq_k fun K308 hK308 => ?_
  refine wp_block_k fun Kx309 hKx309 => ?_
  refine wp_seq_k fun K310 hK310 => ?_
  refine wp_draw [0, 0, 3, 7, 0, 0, 48, 112, 255, 511] [8] rfl hA hS (by kernel_rfl) (by kernel_rfl) (by kernel_rfl) (by kernel_rfl) fun w hS => ?_
  obtain ⟨x311, h312, hF⟩ := bnd hF
  obtain ⟨cs, hV, hc313⟩ := el (hS.rdl 0 ha0 rfl) h312
  obtain rfl := hV
  obtain ⟨x314, h315, hF⟩ := bnd hF
  obtain ⟨cs, hV, hc316⟩ := el (hS.rdl 0 ha1 rfl) h315
  obtain rfl := hV
  refine ⟨[(0, .slice A0 n0 c0), (1, .int .i64 x286), (2, .pointer (some (ea A0 (x286.toNat * 5)))), (3, .agg #[.int .u64 x311.f0, .int .i64 x311.f1, .int .i64 x311.f2, str x311.f3, .float .f64 x311.f4]), (4, .slice A1 n1 c1), (5, .int .i64 x286), (6, .pointer (some (ea A1 (x286.toNat * 5)))), (7, .agg #[.int .u64 x314.f0, .int .i64 x314.f1, .int .i64 x314.f2, str x314.f3, .float .f64 x314.f4])], ?_⟩
  refine dEff [0, 1, 2, 3, 4, 5, 6, 7] [8] (by kernel_rfl) ⟨pu rfl rfl [(0, .slice A0 n0 c0)] (fun ac hA => y_move hA rfl rfl) rfl rfl, pu rfl rfl [(5, .int .i64 x286)] (fun ac hA => y_move hA rfl rfl) rfl rfl, pu rfl rfl [(17, .slice A0 n0 c0), (18, .int .i64 x286)] (fun ac hA => y_ia Tryz.underlying23 sz37 (hS.rdl 0 ha0 rfl) h312 hA rfl rfl rfl) rfl rfl, pu rfl rfl [(19, .pointer (some (ea A0 (x286.toNat * 5))))] (fun ac hA => y_lda (cs := [.int .u64 x311.f0, .int .i64 x311.f1, .int .i64 x311.f2, str x311.f3, .float .f64 x311.f4]) Tryz.underlying37 sz37 (fun j u h => by rw [ea_add]; exact hc313 _ _ h) hA rfl rfl rfl) rfl rfl, pu rfl rfl [(1, .slice A1 n1 c1)] (fun ac hA => y_move hA rfl rfl) rfl rfl, pu rfl rfl [(5, .int .i64 x286)] (fun ac hA => y_move hA rfl rfl) rfl rfl, pu rfl rfl [(21, .slice A1 n1 c1), (22, .int .i64 x286)] (fun ac hA => y_ia Tryz.underlying23 sz37 (hS.rdl 0 ha1 rfl) h315 hA rfl rfl rfl) rfl rfl, pu rfl rfl [(23, .pointer (some (ea A1 (x286.toNat * 5))))] (fun ac hA => y_lda (cs := [.int .u64 x314.f0, .int .i64 x314.f1, .int .i64 x314.f2, str x314.f3, .float .f64 x314.f4]) Tryz.underlying37 sz37 (fun j u h => by rw [ea_add]; exact hc316 _ _ h) hA rfl rfl rfl) rfl rfl, trivial⟩ (by kernel_rfl) (by kernel_rfl) ⟨ef rfl [(20, .agg #[.int .u64 x311.f0, .int .i64 x311.f1, .int .i64 x311.f2, str x311.f3, .float .f64 x311.f4]), (24, .agg #[.int .u64 x314.f0, .int .i64 x314.f1, .int .i64 x314.f2, str x314.f3, .float .f64 x314.f4])] (fun ac hA K hK => ?_) rfl rfl, trivial⟩
  obtain ⟨y317, h318, hF⟩ := bnd hF
  refine z_call en31 hA (F_r06_Same (L := L) x311 x314 h318 hS) (fun v w hR => ?_) rfl rfl
  obtain ⟨rfl, hS⟩ := hR
  refine hK _ [(9, .bool (!y317))] _ rfl ?_
  refine dEnd [9] (by kernel_rfl) ⟨pu rfl rfl [(25, .bool y317)] (fun ac hA => r_not rfl (hA.ev rfl)) rfl rfl, trivial⟩ ⟨by kernel_rfl, by kernel_rfl⟩ [(0, .slice A0 n0 c0), (1, .slice A1 n1 c1), (5, .int .i64 x286), (26, .bool (!y317))] rfl (fun ac hA => ?_)
  refine hK310 _ _ ?_
  refine c_if hA rfl (fun hb319 => ?_) fun hb319 => ?_
  ·replace hF := ift hb319 hF
   refine ws fun K320 hK320 => ?_
   refine x_m hA rfl fun ac hA => ?_
   refine wn (hK320 _ _ ?_)
   refine wp_ret ?_
   cases hF
   have ht := T303_ _ rfl
   subst ht
   replace hF := hR303
   replace hF : some false = some y := hF
   cases hF
   refine hQ _ _ ?_
   refine lv Tryz.results9 hA rfl ?_
   exact ⟨rfl, hS⟩
  replace hF := iff' hb319 hF
  refine wp_skip ?_
  refine hKx309 _ _ ?_
  refine hK308 _ _ ?_
  refine wp_reg ?_
  refine x_m hA rfl fun ac hA => ?_
  refine x_v hA (r_add rfl (hA.ev rfl) (hA.ev rfl)) rfl fun ac hA => ?_
  refine x_m hA rfl fun ac hA => ?_
  refine wpList_nil ?_
  cases hF
  exact ⟨_, N303_ _ rfl, hA.sub _ rfl, hS⟩
 replace hF := iff' hb307 hF
 refine wp_exit ?_
 cases hF
 exact hx303_0 (T303_ _ rfl) ac w (hA.sub _ rfl) hS
theorem F_event_Read_1 {r : World} {L : List HP} {w : World} {Z : Nat → Prop} {wz : World} (a0 : S86) (a1 : (List (List Int))) (g0 : Nat) (g1 : Nat) {y : ((S86 × (List (List Int))) ⊕ (S86 × (List (List Int))))} (hF : event_Read_1 a0 a1 = some y) (hS : SH r (obj86 Z wz g0 a0 :: own (kM Z wz (kI .u8)) 50 (some ⟨g1, 0, none⟩) 5 5 a1 :: zone Z wz :: L) w) :
  RetS Tryz.prog 19 #[.pointer (some ⟨g0, 0, none⟩), .pointer (some ⟨g1, 0, none⟩)] w badC y (fun y v w' => ∃ (Z' : Nat → Prop) (wz' : World), v = .tuple #[] ∧ Sub Z wz Z' wz' ∧ SH r (obj86 Z' wz' g0 y.1 :: own (kM Z' wz' (kI .u8)) 50 (some ⟨g1, 0, none⟩) 5 5 y.2 :: zone Z' wz' :: L) w') (fun y w' => ∃ (Z' : Nat → Prop) (wz' : World), Sub Z wz Z' wz' ∧ SH r (obj86 Z' wz' g0 y.1 :: own (kM Z' wz' (kI .u8)) 50 (some ⟨g1, 0, none⟩) 5 5 y.2 :: zone Z' wz' :: L) w') := by
 refine enterS Tryz.func19 rfl Tryz.ntmps19 [(0, .pointer (some ⟨g0, 0, none⟩)), (1, .pointer (some ⟨g1, 0, none⟩))] rfl (by simp) ?_
 intro ac hA Qf hQ hQn hQp
 unfold event_Read_1 at hF
 obtain ⟨A101, n102, c103, hS⟩ := obj86_open hS
 replace hS := hS.pk 1
 have hQ0 := SH.unpure hS
 clear hS
 obtain ⟨h104, hS⟩ := hQ0
 refine ws fun K105 hK105 => ?_
 refine x_m hA rfl fun ac hA => ?_
 refine wn (hK105 _ _ ?_)
 refine wp_block_k fun Kx106 hKx106 => ?_
 have hb1 : ∀ (l237 : (List Int)) (l242 : (List (List Int))), event_Read_1_b1 l237 l242 = some y → ∀ (Z234 : Nat → Prop) (wz235 : World) (A238 : Option Addr) (n239 : Nat) (c240 : Nat) (h236 : Sub Z wz Z234 wz235) (h241 : Imm Z234 wz235 (kI .u8) A238 n239 c240 l237) (ac : Act) (w : World), FR 13 [] ac [(0, .pointer (some ⟨g0, 0, none⟩)), (1, .pointer (some ⟨g1, 0, none⟩))] → SH r (blk g0 86 [.slice A238 n239 c240] :: own (kM Z234 wz235 (kI .u8)) 50 (some ⟨g1, 0, none⟩) 5 5 l242 :: zone Z234 wz235 :: L) w → Kx106 ac w := by
  intro l237 l242 hF Z234 wz235 A238 n239 c240 h236 h241 ac w hA hS
  unfold event_Read_1_b1 at hF
  refine hKx106 _ _ ?_
  replace hS := SH.pure_ h241 hS
  replace hS := hS.pk 1
  replace hS := obj86_mk (x := (⟨l237⟩ : S86)) hS
  replace hS := hS.pk 2
  replace hS := hS.pk 2
  replace hS := hS.pk 2
  cases hF
  refine hQn _ rfl _ _ ?_
  refine lv0n Tryz.results19 hA ?_
  exact ⟨Z234, wz235, rfl, h236, hS⟩
 obtain ⟨t339, hl339, hF⟩ := bnd hF
 have hR339 := hF
 have hx339_0 : ∀ (l334 : (List Int)) (l339 : (List (List Int))), (.inl (l334, l339)) = t339 → ∀ (Z331 : Nat → Prop) (wz332 : World) (A335 : Option Addr) (n336 : Nat) (c337 : Nat) (h333 : Sub Z wz Z331 wz332) (h338 : Imm Z331 wz332 (kI .u8) A335 n336 c337 l334) (ac : Act) (w : World), FR 13 [] ac [(0, .pointer (some ⟨g0, 0, none⟩)), (1, .pointer (some ⟨g1, 0, none⟩))] → SH r (blk g0 86 [.slice A335 n336 c337] :: own (kM Z331 wz332 (kI .u8)) 50 (some ⟨g1, 0, none⟩) 5 5 l339 :: zone Z331 wz332 :: L) w → Kx106 ac w := by
  intro l334 l339 ht Z331 wz332 A335 n336 c337 h333 h338 ac w hA hS
  subst ht
  replace hF : event_Read_1_x1_0 l334 l339 = some y := hF
  unfold event_Read_1_x1_0 at hF
  exact hb1 l334 l339 hF Z331 wz332 A335 n336 c337 h333 h338 ac w (hA.sub _ rfl) hS
 refine wp_loop_fn hl339 (fun s ac w => ∃ (Z282 : Nat → Prop) (wz283 : World) (A286 : Option Addr) (n287 : Nat) (c288 : Nat), Sub Z wz Z282 wz283 ∧ Imm Z282 wz283 (kI .u8) A286 n287 c288 s.1 ∧ FR 13 [] ac [(0, .pointer (some ⟨g0, 0, none⟩)), (1, .pointer (some ⟨g1, 0, none⟩)), (4, .int .i64 s.2.2)] ∧ SH r (blk g0 86 [.slice A286 n287 c288] :: own (kM Z282 wz283 (kI .u8)) 50 (some ⟨g1, 0, none⟩) 5 5 s.2.1 :: zone Z282 wz283 :: L) w) ⟨Z, wz, A101, n102, c103, (Sub.refl _ _), h104, hA.sub _ rfl, hS⟩ ?_
 intro N339 s339 o339 hF N339_ T339_ ac w hLab
 obtain ⟨l285, l290, x291⟩ := s339
 replace hF : event_Read_1_l1 l285 l290 x291 = some o339 := hF
 unfold event_Read_1_l1 at hF
 try dsimp only at hLab
 obtain ⟨Z282, wz283, A286, n287, c288, h284, h289, hA, hS⟩ := hLab
 refine ws fun K341 hK341 => ?_
 refine x_v hA (r_ltI rfl (hA.ev rfl) (hA.ev rfl)) rfl fun ac hA => ?_
 refine wn (hK341 _ _ ?_)
 refine wp_seq_k fun K342 hK342 => ?_
 refine c_if hA rfl (fun hb343 => ?_) fun hb343 => ?_
 ·replace hF := ift hb343 hF
  refine wp_skip ?_
  refine hK342 _ _ ?_
  refine wp_seq_k fun K344 hK344 => ?_
  refine wp_block_k fun Kx345 hKx345 => ?_
  refine ws fun K346 hK346 => ?_
  refine x_m hA rfl fun ac hA => ?_
  refine x_m hA rfl fun ac hA => ?_
  refine wn (hK346 _ _ ?_)
  refine wp_reg ?_
  refine x_m hA rfl fun ac hA => ?_
  refine x_m hA rfl fun ac hA => ?_
  replace hS := SH.pure_ h289 hS
  replace hS := hS.pk 1
  replace hS := obj86_mk (x := (⟨l285⟩ : S86)) hS
  obtain ⟨y347, h348, hF⟩ := bnd hF
  rcases y347 with y347 | y347
  rotate_left
  ·replace hF := sum_r hF
   refine x_callp (vs := #[.pointer (some ⟨g0, 0, none⟩), .int .i64 1048576]) en20 hA (RetS.rf (F_column_Reader_Text (L := own (kM Z282 wz283 (kI .u8)) 50 (some ⟨g1, 0, none⟩) 5 5 l290 :: zone Z282 wz283 :: L) (⟨l285⟩ : S86) 1048576 g0 h348 1 rfl hS)) (fun w hR => ?_) rfl rfl rfl rfl rfl
   replace hS := hR
   obtain ⟨A349, n350, c351, hS⟩ := obj86_open hS
   replace hS := hS.pk 1
   have hQ0 := SH.unpure hS
   clear hS
   obtain ⟨h352, hS⟩ := hQ0
   replace hS := SH.pure_ h352 hS
   replace hS := hS.pk 1
   replace hS := obj86_mk (x := y347) hS
   replace hS := hS.pk 2
   replace hS := hS.pk 2
   replace hS := hS.pk 2
   cases hF
   have ht := T339_ _ rfl
   subst ht
   replace hF := hR339
   replace hF : some (.inr (y347, l290)) = some y := hF
   cases hF
   exact hQp _ rfl _ _ hA.defers ⟨Z282, wz283, h284, hS⟩
  replace hF := sum_l hF
  refine x_callw (vs := #[.pointer (some ⟨g0, 0, none⟩), .int .i64 1048576]) en20 hA (RetS.lf (F_column_Reader_Text (L := own (kM Z282 wz283 (kI .u8)) 50 (some ⟨g1, 0, none⟩) 5 5 l290 :: zone Z282 wz283 :: L) (⟨l285⟩ : S86) 1048576 g0 h348 1 rfl hS)) (fun v ac w hR hA => ?_) rfl rfl rfl rfl rfl rfl rfl
  obtain ⟨rfl, hS⟩ := hR
  obtain ⟨A353, n354, c355, hS⟩ := obj86_open hS
  replace hS := hS.pk 1
  have hQ0 := SH.unpure hS
  clear hS
  obtain ⟨h356, hS⟩ := hQ0
  obtain ⟨h360, hF⟩ := chk_some hF
  refine x_s2b (e := 5) Tryz.underlying22 Tryz.underlying5 Tryz.underlying9 hA hS h360 (fun A357 n358 c359 ac w hS hA => ?_) rfl rfl rfl rfl rfl
  obtain ⟨x361, h362, hF⟩ := bnd hF
  refine x_iaA Tryz.underlying50 sz22 (hS.rd 2 rfl) h362 hA (fun ac hA => ?_) rfl rfl rfl rfl rfl rfl
  replace hS := hS.pk 3
  replace hS := hS.pk 1
  obtain ⟨Z363, wz364, hS, h365, sb366⟩ := SH.freezem (m := n358) (c := c359) (A := A357) hS
  have h367 := Imm.sub h356 sb366
  replace hS := hS.pk 2
  replace hS := hS.kind (d' := (kM Z363 wz364 (kI .u8))) rfl (kM_sub sb366)
  refine x_sto (z' := stb y347.1) (off := 0) (vs := [.slice A357 n358 c359]) 0 sz22 hA hS rfl (at_some h362).2.2 (fun c h => by obtain ⟨_, _, _, rfl, _⟩ := h; exact ⟨_, _, _, rfl, h365⟩) (fun  ac w hS hA => ?_) rfl rfl rfl rfl rfl rfl rfl rfl
  refine wpList_nil ?_
  refine hKx345 _ _ ?_
  refine hK344 _ _ ?_
  refine wp_reg ?_
  obtain ⟨x368, h369, hF⟩ := ltt_ hF
  refine x_v (v := .int .i64 x368) hA (rv_i h369 (r_add rfl (hA.ev rfl) (hA.ev rfl))) rfl fun ac hA => ?_
  refine x_m hA rfl fun ac hA => ?_
  refine wpList_nil ?_
  replace hS := hS.pk 1
  replace hS := hS.pk 1
  replace hS := hS.pk 2
  cases hF
  exact ⟨_, N339_ _ rfl, Z363, wz364, A353, n354, c355, (Sub.trans h284 sb366), h367, hA.sub _ rfl, hS⟩
 replace hF := iff' hb343 hF
 refine wp_exit ?_
 cases hF
 exact hx339_0 l285 l290 (T339_ _ rfl) Z282 wz283 A286 n287 c288 h284 h289 ac w (hA.sub _ rfl) hS
theorem F_Try_event_Read_1 {r : World} {L : List HP} {w : World} {Z : Nat → Prop} {wz : World} (a0 : (List Int)) (a60 : (List (List Int))) (A0 : Option Addr) (n0 : Nat) (c0 : Nat) (g60 : Nat) {y : (Bool × (List (List Int)))} (hF : Try_event_Read_1 a0 a60 = some y) (ha0 : Imm Z wz (kI .u8) A0 n0 c0 a0) (hS : SH r (own (kM Z wz (kI .u8)) 50 (some ⟨g60, 0, none⟩) 5 5 a60 :: zone Z wz :: L) w) :
  Ret Tryz.prog 18 #[.slice A0 n0 c0, .func (.func 19) #[] #[.pointer (some ⟨g60, 0, none⟩)]] w fun v w' => ∃ (Z' : Nat → Prop) (wz' : World), v = .bool y.1 ∧ Sub Z wz Z' wz' ∧ SH r (own (kM Z' wz' (kI .u8)) 50 (some ⟨g60, 0, none⟩) 5 5 y.2 :: zone Z' wz' :: L) w' := by
 obtain ⟨y', hy, hF⟩ := bnd hF
 refine Ret.mono_ (try_walk (R := fun v w' => ∃ (Z' : Nat → Prop) (wz' : World), v = .bool y.1 ∧ Sub Z wz Z' wz' ∧ SH r (own (kM Z' wz' (kI .u8)) 50 (some ⟨g60, 0, none⟩) 5 5 y.2 :: zone Z' wz' :: L) w') en19 hS (fun g g4 w1 hS1 => ?_)) (fun v w' h => h)
 replace hS1 := obj86_mk (x := ⟨a0⟩) (hS1.pk 1 |> fun h => (SH.pure_ ha0 (h.pk 1)).pk 1)
 replace hS1 := hS1.pk 1
 replace hS1 := hS1.pk 3
 replace hS1 := hS1.pk 3
 replace hS1 := hS1.pk 3
 rcases y' with y' | y'
 ·replace hF := sum_l hF
  cases hF
  left
  refine Ret.mono_ (RetS.lf (F_event_Read_1 (L := blk g4 4 [.bool false] :: L) (⟨a0⟩ : S86) a60 g g60 hy hS1)) ?_
  rintro v w2 ⟨Z', wz', rfl, hs, hS⟩
  replace hS := hS.pk 3
  replace hS := hS.pk 1
  obtain ⟨A', n', c', hS⟩ := obj86_open hS
  have hQ := SH.unpure (hS.pk 1)
  clear hS
  obtain ⟨hi, hS⟩ := hQ
  refine ⟨_, A', n', c', hS, fun w3 h3 => ⟨Z', wz', ?_, hs, h3⟩⟩
  rw [← hi.ln]
 ·replace hF := sum_r hF
  cases hF
  right
  refine Calls.mono (RetS.rf (F_event_Read_1 (L := blk g4 4 [.bool false] :: L) (⟨a0⟩ : S86) a60 g g60 hy hS1)) ?_
  rintro e w2 ⟨rfl, Z', wz', hs, hS⟩
  replace hS := hS.pk 3
  replace hS := hS.drop 1
  exact ⟨rfl, _, hS, fun w3 h3 => ⟨Z', wz', rfl, hs, h3⟩⟩
theorem F_event_Read {r : World} {L : List HP} {w : World} {Z : Nat → Prop} {wz : World} (a0 : (List Int)) (a1 : Int) (a2 : Int) (A0 : Option Addr) (n0 : Nat) (c0 : Nat) {y : ((List S37) × Int × Int)} (hF : event_Read a0 a1 a2 = some y) (ha0 : Imm Z wz (kI .u8) A0 n0 c0 a0) (hG0 : Imm Z wz (kI .u32) (some ⟨0, 0, none⟩) 16 16 gl_page_table) (hS : SH r (zone Z wz :: L) w) :
  Ret Tryz.prog 7 #[.slice A0 n0 c0, .int .i64 a1, .int .i64 a2] w fun v w' => ∃ (Z' : Nat → Prop) (wz' : World) (B0 : Option Addr) (m0 : Nat) (d0 : Nat), v = .tuple #[(.slice B0 m0 d0), (.int .i64 y.2.1), (.int .i64 y.2.2)] ∧ Sub Z wz Z' wz' ∧ SH r (own k37 37 B0 m0 d0 y.1 :: zone Z' wz' :: L) w' := by
 refine enter Tryz.func7 rfl Tryz.ntmps7 [(0, .slice A0 n0 c0), (1, .int .i64 a1), (2, .int .i64 a2)] rfl (by simp) ?_
 intro ac hA Qf hQ hQn
 unfold event_Read at hF
 refine ws fun K101 hK101 => ?_
 refine x_m hA rfl fun ac hA => ?_
 refine x_m hA rfl fun ac hA => ?_
 refine x_m hA rfl fun ac hA => ?_
 refine wn (hK101 _ _ ?_)
 refine ws fun K102 hK102 => ?_
 refine x_m hA rfl fun ac hA => ?_
 refine x_m hA rfl fun ac hA => ?_
 obtain ⟨y103, h104, hF⟩ := bnd hF
 refine x_call en17 hA (F_page_Read (L := zone Z wz :: L) a0 a1 A0 n0 c0 h104 0 rfl ha0 hG0 hS) (fun v ac w hR hA => ?_) rfl rfl rfl rfl rfl
 obtain ⟨B105, m106, d107, rfl, hS⟩ := hR
 refine x_m hA rfl fun ac hA => ?_
 refine x_v hA (r_extract rfl (hA.ev rfl) rfl) rfl fun ac hA => ?_
 refine x_v hA (r_extract rfl (hA.ev rfl) rfl) rfl fun ac hA => ?_
 refine x_v hA (r_extract rfl (hA.ev rfl) rfl) rfl fun ac hA => ?_
 refine x_v hA (r_extract rfl (hA.ev rfl) rfl) rfl fun ac hA => ?_
 refine x_m hA rfl fun ac hA => ?_
 refine x_m hA rfl fun ac hA => ?_
 refine x_m hA rfl fun ac hA => ?_
 refine x_m hA rfl fun ac hA => ?_
 refine wn (hK102 _ _ ?_)
 refine wp_seq_k fun K108 hK108 => ?_
 refine ws fun K109 hK109 => ?_
 refine x_m hA rfl fun ac hA => ?_
 refine x_v hA (r_neI rfl (hA.ev rfl) (hA.ev rfl)) rfl fun ac hA => ?_
 refine wn (hK109 _ _ ?_)
 refine c_if hA rfl (fun hb110 => ?_) fun hb110 => ?_
 ·replace hF := ift hb110 hF
  refine ws fun K111 hK111 => ?_
  refine x_m hA rfl fun ac hA => ?_
  refine x_m hA rfl fun ac hA => ?_
  refine x_m hA rfl fun ac hA => ?_
  refine x_m hA rfl fun ac hA => ?_
  refine wn (hK111 _ _ ?_)
  refine wp_ret ?_
  replace hS := SH.nil_own (d := k37) (e := 37) hS
  replace hS := hS.drop 1
  replace hS := hS.pk 1
  replace hS := hS.pk 1
  cases hF
  refine hQ _ _ ?_
  refine lv3 Tryz.results7 hA rfl rfl rfl ?_
  exact ⟨Z, wz, none, 0, 0, rfl, (Sub.refl _ _), hS⟩
 replace hF := iff' hb110 hF
 refine wp_skip ?_
 refine hK108 _ _ ?_
 refine ws fun K112 hK112 => ?_
 refine x_alloc (cs := [.slice none 0 0, .slice none 0 0, .slice none 0 0, .slice none 0 0, .slice none 0 0]) zr50 hA hS (fun g113 ac w hS hA => ?_) rfl rfl rfl rfl rfl
 replace hS := blk_own (d := (kM Z wz (kI .u8))) (xs := ([[], [], [], [], []] : List (List Int))) ⟨[.slice none 0 0], _, rfl, ⟨_, _, _, rfl, Imm.nil⟩, ⟨[.slice none 0 0], _, rfl, ⟨_, _, _, rfl, Imm.nil⟩, ⟨[.slice none 0 0], _, rfl, ⟨_, _, _, rfl, Imm.nil⟩, ⟨[.slice none 0 0], _, rfl, ⟨_, _, _, rfl, Imm.nil⟩, ⟨[.slice none 0 0], _, rfl, ⟨_, _, _, rfl, Imm.nil⟩, rfl⟩⟩⟩⟩⟩ rfl rfl hS
 refine wn (hK112 _ _ ?_)
 refine wp_seq_k fun K114 hK114 => ?_
 have hj1 : ∀ (l131 : (List (List Int))) (b132 : Bool), event_Read_j1 a2 y103 l131 b132 = some y → ∀ (Z128 : Nat → Prop) (wz129 : World) (h130 : Sub Z wz Z128 wz129) (ac : Act) (w : World), FR 149 [] ac [(2, .int .i64 a2), (11, .int .i64 y103.2.2.1), (13, .pointer (some ⟨g113, 0, none⟩)), (14, .bool b132)] → SH r (own (kM Z128 wz129 (kI .u8)) 50 (some ⟨g113, 0, none⟩) 5 5 l131 :: zone Z128 wz129 :: L) w → K114 ac w := by
  intro l131 b132 hF Z128 wz129 h130 ac w hA hS
  unfold event_Read_j1 at hF
  refine hK114 _ _ ?_
  refine wp_seq_k fun K133 hK133 => ?_
  refine ws fun K134 hK134 => ?_
  refine x_m hA rfl fun ac hA => ?_
  refine x_v hA (r_not rfl (hA.ev rfl)) rfl fun ac hA => ?_
  refine wn (hK134 _ _ ?_)
  refine c_if hA rfl (fun hb135 => ?_) fun hb135 => ?_
  ·replace hF := ift hb135 hF
   refine ws fun K136 hK136 => ?_
   refine x_m hA rfl fun ac hA => ?_
   refine x_m hA rfl fun ac hA => ?_
   refine x_m hA rfl fun ac hA => ?_
   refine wn (hK136 _ _ ?_)
   refine wp_ret ?_
   replace hS := SH.nil_own (d := k37) (e := 37) hS
   replace hS := hS.drop 1
   replace hS := hS.pk 1
   replace hS := hS.pk 1
   cases hF
   refine hQ _ _ ?_
   refine lv3 Tryz.results7 hA rfl rfl rfl ?_
   exact ⟨Z128, wz129, none, 0, 0, rfl, h130, hS⟩
  replace hF := iff' hb135 hF
  refine wp_skip ?_
  refine hK133 _ _ ?_
  refine ws fun K137 hK137 => ?_
  obtain ⟨x138, h139, hF⟩ := bnd hF
  refine x_iaA Tryz.underlying50 sz22 (hS.rd 0 rfl) h139 hA (fun ac hA => ?_) rfl rfl rfl rfl rfl rfl
  obtain ⟨cs, hV, hc140⟩ := el (hS.rd 0 rfl) h139
  obtain ⟨A141, n142, c143, rfl, h144⟩ := hV
  refine x_ld Tryz.underlying22 (hc140 0 _ rfl) hA (fun ac hA => ?_) rfl rfl rfl rfl rfl rfl
  obtain ⟨y145, h146, hF⟩ := bnd hF
  refine x_call en21 hA (F_column_ReadInts (L := own (kM Z128 wz129 (kI .u8)) 50 (some ⟨g113, 0, none⟩) 5 5 l131 :: zone Z128 wz129 :: L) x138 A141 n142 c143 h146 1 rfl h144 hS) (fun v ac w hR hA => ?_) rfl rfl rfl rfl rfl
  obtain ⟨B147, m148, d149, rfl, hS⟩ := hR
  refine x_m hA rfl fun ac hA => ?_
  refine x_v hA (r_extract rfl (hA.ev rfl) rfl) rfl fun ac hA => ?_
  refine x_v hA (r_extract rfl (hA.ev rfl) rfl) rfl fun ac hA => ?_
  refine x_m hA rfl fun ac hA => ?_
  refine x_m hA rfl fun ac hA => ?_
  refine wn (hK137 _ _ ?_)
  refine ws fun K150 hK150 => ?_
  obtain ⟨x151, h152, hF⟩ := bnd hF
  refine x_iaA Tryz.underlying50 sz22 (hS.rd 1 rfl) h152 hA (fun ac hA => ?_) rfl rfl rfl rfl rfl rfl
  obtain ⟨cs, hV, hc153⟩ := el (hS.rd 1 rfl) h152
  obtain ⟨A154, n155, c156, rfl, h157⟩ := hV
  refine x_ld Tryz.underlying22 (hc153 0 _ rfl) hA (fun ac hA => ?_) rfl rfl rfl rfl rfl rfl
  obtain ⟨y158, h159, hF⟩ := bnd hF
  refine x_call en21 hA (F_column_ReadInts (L := own (kI .i64) 2 B147 m148 d149 y145.1 :: own (kM Z128 wz129 (kI .u8)) 50 (some ⟨g113, 0, none⟩) 5 5 l131 :: zone Z128 wz129 :: L) x151 A154 n155 c156 h159 2 rfl h157 hS) (fun v ac w hR hA => ?_) rfl rfl rfl rfl rfl
  obtain ⟨B160, m161, d162, rfl, hS⟩ := hR
  refine x_m hA rfl fun ac hA => ?_
  refine x_v hA (r_extract rfl (hA.ev rfl) rfl) rfl fun ac hA => ?_
  refine x_v hA (r_extract rfl (hA.ev rfl) rfl) rfl fun ac hA => ?_
  refine x_m hA rfl fun ac hA => ?_
  refine x_m hA rfl fun ac hA => ?_
  refine wn (hK150 _ _ ?_)
  refine ws fun K163 hK163 => ?_
  obtain ⟨x164, h165, hF⟩ := bnd hF
  refine x_iaA Tryz.underlying50 sz22 (hS.rd 2 rfl) h165 hA (fun ac hA => ?_) rfl rfl rfl rfl rfl rfl
  obtain ⟨cs, hV, hc166⟩ := el (hS.rd 2 rfl) h165
  obtain ⟨A167, n168, c169, rfl, h170⟩ := hV
  refine x_ld Tryz.underlying22 (hc166 0 _ rfl) hA (fun ac hA => ?_) rfl rfl rfl rfl rfl rfl
  obtain ⟨y171, h172, hF⟩ := bnd hF
  refine x_call en21 hA (F_column_ReadInts (L := own (kI .i64) 2 B160 m161 d162 y158.1 :: own (kI .i64) 2 B147 m148 d149 y145.1 :: own (kM Z128 wz129 (kI .u8)) 50 (some ⟨g113, 0, none⟩) 5 5 l131 :: zone Z128 wz129 :: L) x164 A167 n168 c169 h172 3 rfl h170 hS) (fun v ac w hR hA => ?_) rfl rfl rfl rfl rfl
  obtain ⟨B173, m174, d175, rfl, hS⟩ := hR
  refine x_m hA rfl fun ac hA => ?_
  refine x_v hA (r_extract rfl (hA.ev rfl) rfl) rfl fun ac hA => ?_
  refine x_v hA (r_extract rfl (hA.ev rfl) rfl) rfl fun ac hA => ?_
  refine x_m hA rfl fun ac hA => ?_
  refine x_m hA rfl fun ac hA => ?_
  refine wn (hK163 _ _ ?_)
  refine ws fun K176 hK176 => ?_
  obtain ⟨x177, h178, hF⟩ := bnd hF
  refine x_iaA Tryz.underlying50 sz22 (hS.rd 3 rfl) h178 hA (fun ac hA => ?_) rfl rfl rfl rfl rfl rfl
  obtain ⟨cs, hV, hc179⟩ := el (hS.rd 3 rfl) h178
  obtain ⟨A180, n181, c182, rfl, h183⟩ := hV
  refine x_ld Tryz.underlying22 (hc179 0 _ rfl) hA (fun ac hA => ?_) rfl rfl rfl rfl rfl rfl
  obtain ⟨y184, h185, hF⟩ := bnd hF
  refine x_call en22 hA (F_column_ReadTexts (L := own (kI .i64) 2 B173 m174 d175 y171.1 :: own (kI .i64) 2 B160 m161 d162 y158.1 :: own (kI .i64) 2 B147 m148 d149 y145.1 :: own (kM Z128 wz129 (kI .u8)) 50 (some ⟨g113, 0, none⟩) 5 5 l131 :: zone Z128 wz129 :: L) x177 A180 n181 c182 h185 4 rfl h183 hS) (fun v ac w hR hA => ?_) rfl rfl rfl rfl rfl
  obtain ⟨B186, m187, d188, rfl, hS⟩ := hR
  refine x_m hA rfl fun ac hA => ?_
  refine x_v hA (r_extract rfl (hA.ev rfl) rfl) rfl fun ac hA => ?_
  refine x_v hA (r_extract rfl (hA.ev rfl) rfl) rfl fun ac hA => ?_
  refine x_m hA rfl fun ac hA => ?_
  refine x_m hA rfl fun ac hA => ?_
  refine wn (hK176 _ _ ?_)
  refine ws fun K189 hK189 => ?_
  obtain ⟨x190, h191, hF⟩ := bnd hF
  refine x_iaA Tryz.underlying50 sz22 (hS.rd 4 rfl) h191 hA (fun ac hA => ?_) rfl rfl rfl rfl rfl rfl
  obtain ⟨cs, hV, hc192⟩ := el (hS.rd 4 rfl) h191
  obtain ⟨A193, n194, c195, rfl, h196⟩ := hV
  refine x_ld Tryz.underlying22 (hc192 0 _ rfl) hA (fun ac hA => ?_) rfl rfl rfl rfl rfl rfl
  obtain ⟨y197, h198, hF⟩ := bnd hF
  refine x_call en23 hA (F_column_ReadReals (L := own kS 9 B186 m187 d188 y184.1 :: own (kI .i64) 2 B173 m174 d175 y171.1 :: own (kI .i64) 2 B160 m161 d162 y158.1 :: own (kI .i64) 2 B147 m148 d149 y145.1 :: own (kM Z128 wz129 (kI .u8)) 50 (some ⟨g113, 0, none⟩) 5 5 l131 :: zone Z128 wz129 :: L) x190 A193 n194 c195 h198 5 rfl h196 hS) (fun v ac w hR hA => ?_) rfl rfl rfl rfl rfl
  obtain ⟨B199, m200, d201, rfl, hS⟩ := hR
  refine x_m hA rfl fun ac hA => ?_
  refine x_v hA (r_extract rfl (hA.ev rfl) rfl) rfl fun ac hA => ?_
  refine x_v hA (r_extract rfl (hA.ev rfl) rfl) rfl fun ac hA => ?_
  refine x_m hA rfl fun ac hA => ?_
  refine x_m hA rfl fun ac hA => ?_
  refine wn (hK189 _ _ ?_)
  refine ws fun K202 hK202 => ?_
  refine x_m hA rfl fun ac hA => ?_
  refine x_len Tryz.underlying39 (hS.rd 4 rfl).2.1 hA (fun ac hA => ?_) rfl rfl rfl rfl rfl
  refine x_m hA rfl fun ac hA => ?_
  refine wn (hK202 _ _ ?_)
  refine wp_seq_k fun K203 hK203 => ?_
  refine wp_seq_k fun K204 hK204 => ?_
  have hj2 : ∀ (b212 : Bool), event_Read_j2 a2 y103 y145 y158 y171 y184 y197 b212 = some y → ∀ (ac : Act) (w : World), FR 149 [] ac [(2, .int .i64 a2), (11, .int .i64 y103.2.2.1), (15, .slice B147 m148 d149), (17, .slice B160 m161 d162), (19, .slice B173 m174 d175), (21, .slice B186 m187 d188), (23, .slice B199 m200 d201), (25, .int .i64 (y145.1.length : Int)), (111, .bool b212)] → SH r (own (kI .i64) 2 B147 m148 d149 y145.1 :: own (kI .i64) 2 B160 m161 d162 y158.1 :: own (kI .i64) 2 B173 m174 d175 y171.1 :: own kS 9 B186 m187 d188 y184.1 :: own kF 35 B199 m200 d201 y197.1 :: zone Z128 wz129 :: L) w → K204 ac w := by
   intro b212 hF ac w hA hS
   unfold event_Read_j2 at hF
   refine hK204 _ _ ?_
   refine c_if hA rfl (fun hb213 => ?_) fun hb213 => ?_
   ·replace hF := ift hb213 hF
    refine ws fun K214 hK214 => ?_
    refine x_m hA rfl fun ac hA => ?_
    refine x_m hA rfl fun ac hA => ?_
    refine x_m hA rfl fun ac hA => ?_
    refine wn (hK214 _ _ ?_)
    refine wp_ret ?_
    replace hS := SH.nil_own (d := k37) (e := 37) hS
    replace hS := hS.drop 1
    replace hS := hS.drop 1
    replace hS := hS.drop 1
    replace hS := hS.drop 1
    replace hS := hS.drop 1
    replace hS := hS.pk 1
    replace hS := hS.pk 1
    cases hF
    refine hQ _ _ ?_
    refine lv3 Tryz.results7 hA rfl rfl rfl ?_
    exact ⟨Z128, wz129, none, 0, 0, rfl, h130, hS⟩
   replace hF := iff' hb213 hF
   refine wp_skip ?_
   refine hK203 _ _ ?_
   refine ws fun K215 hK215 => ?_
   refine x_m hA rfl fun ac hA => ?_
   refine wn (hK215 _ _ ?_)
   refine wp_seq_k fun K216 hK216 => ?_
   refine ws fun K538 hK538 => ?_
   refine x_m hA rfl fun ac hA => ?_
   refine x_m hA rfl fun ac hA => ?_
   refine wn (hK538 _ _ ?_)
   refine wp_block_k fun Kx539 hKx539 => ?_
   have hb1 : ∀ (l697 : (List S37)), event_Read_b1 y103 l697 = some y → ∀ (A698 : Option Addr) (n699 : Nat) (c700 : Nat) (ac : Act) (w : World), FR 149 [] ac [(11, .int .i64 y103.2.2.1), (26, .slice A698 n699 c700)] → SH r (own k37 37 A698 n699 c700 l697 :: zone Z128 wz129 :: L) w → Kx539 ac w := by
    intro l697 hF A698 n699 c700 ac w hA hS
    unfold event_Read_b1 at hF
    refine hKx539 _ _ ?_
    refine hK216 _ _ ?_
    refine ws fun K701 hK701 => ?_
    refine x_m hA rfl fun ac hA => ?_
    refine x_m hA rfl fun ac hA => ?_
    refine x_m hA rfl fun ac hA => ?_
    refine x_m hA rfl fun ac hA => ?_
    refine x_m hA rfl fun ac hA => ?_
    refine wn (hK701 _ _ ?_)
    refine wp_ret ?_
    replace hS := hS.pk 1
    replace hS := hS.pk 1
    cases hF
    refine hQ _ _ ?_
    refine lv3 Tryz.results7 hA rfl rfl rfl ?_
    exact ⟨Z128, wz129, A698, n699, c700, rfl, h130, hS⟩
   obtain ⟨t814, hl814, hF⟩ := bnd hF
   have hR814 := hF
   have hx814_0 : ∀ (l811 : (List S37)), (.inl (l811)) = t814 → ∀ (A812 : Option Addr) (n813 : Nat) (c814 : Nat) (ac : Act) (w : World), FR 149 [] ac [(11, .int .i64 y103.2.2.1), (26, .slice A812 n813 c814)] → SH r (own k37 37 A812 n813 c814 l811 :: zone Z128 wz129 :: L) w → Kx539 ac w := by
    intro l811 ht A812 n813 c814 ac w hA hS
    subst ht
    replace hF : event_Read_x1_0 y103 l811 = some y := hF
    unfold event_Read_x1_0 at hF
    exact hb1 l811 hF A812 n813 c814 ac w (hA.sub _ rfl) hS
   replace hS := SH.nil_own (d := k37) (e := 37) hS
   replace hS := hS.pk 6
   replace hS := hS.pk 1
   replace hS := hS.pk 6
   replace hS := hS.pk 6
   replace hS := hS.pk 6
   replace hS := hS.pk 6
   replace hS := hS.pk 6
   refine wp_loop_fn hl814 (fun s ac w => ∃ (A759 : Option Addr) (n760 : Nat) (c761 : Nat), FR 149 [] ac [(2, .int .i64 a2), (11, .int .i64 y103.2.2.1), (15, .slice B147 m148 d149), (17, .slice B160 m161 d162), (19, .slice B173 m174 d175), (21, .slice B186 m187 d188), (23, .slice B199 m200 d201), (26, .slice A759 n760 c761), (112, .int .i64 (y145.1.length : Int)), (113, .int .i64 s.2)] ∧ SH r (own (kI .i64) 2 B147 m148 d149 y145.1 :: own (kI .i64) 2 B160 m161 d162 y158.1 :: own (kI .i64) 2 B173 m174 d175 y171.1 :: own kS 9 B186 m187 d188 y184.1 :: own kF 35 B199 m200 d201 y197.1 :: own k37 37 A759 n760 c761 s.1 :: zone Z128 wz129 :: L) w) ⟨none, 0, 0, hA.sub _ rfl, hS⟩ ?_
   intro N814 s814 o814 hF N814_ T814_ ac w hLab
   obtain ⟨l758, x762⟩ := s814
   replace hF : event_Read_l1 a2 y145 y158 y171 y184 y197 l758 x762 = some o814 := hF
   unfold event_Read_l1 at hF
   try dsimp only at hLab
   obtain ⟨A759, n760, c761, hA, hS⟩ := hLab
   refine ws fun K816 hK816 => ?_
   refine x_v hA (r_ltI rfl (hA.ev rfl) (hA.ev rfl)) rfl fun ac hA => ?_
   refine wn (hK816 _ _ ?_)
   refine wp_seq_k fun K817 hK817 => ?_
   refine c_if hA rfl (fun hb818 => ?_) fun hb818 => ?_
   ·replace hF := ift hb818 hF
    refine wp_skip ?_
    refine hK817 _ _ ?_
    refine wp_seq_k fun K819 hK819 => ?_
    refine wp_block_k fun Kx820 hKx820 => ?_
    refine ws fun K821 hK821 => ?_
    refine x_m hA rfl fun ac hA => ?_
    refine x_m hA rfl fun ac hA => ?_
    refine wn (hK821 _ _ ?_)
    refine wp_seq_k fun K822 hK822 => ?_
    refine wp_draw [0, 0, 3, 7, 15, 0, 0, 96, 224, 0, 0, 1536, 3584, 0, 0, 24576, 57344, 0, 0, 393216, 917504, 2097151, 0, 8388607] [22, 23] rfl hA hS (by kernel_rfl) (by kernel_rfl) (by kernel_rfl) (by kernel_rfl) fun w hS => ?_
    obtain ⟨x823, h824, hF⟩ := bnd hF
    obtain ⟨cs, hV, hc825⟩ := el (hS.rd 0 rfl) h824
    obtain rfl := hV
    obtain ⟨x826, h827, hF⟩ := ltt_ hF
    obtain ⟨x828, h829, hF⟩ := bnd hF
    obtain ⟨cs, hV, hc830⟩ := el (hS.rd 1 rfl) h829
    obtain rfl := hV
    obtain ⟨x831, h832, hF⟩ := bnd hF
    obtain ⟨cs, hV, hc833⟩ := el (hS.rd 2 rfl) h832
    obtain rfl := hV
    obtain ⟨x834, h835, hF⟩ := bnd hF
    obtain ⟨cs, hV, hc836⟩ := el (hS.rd 3 rfl) h835
    obtain rfl := hV
    obtain ⟨x837, h838, hF⟩ := bnd hF
    obtain ⟨cs, hV, hc839⟩ := el (hS.rd 4 rfl) h838
    obtain rfl := hV
    refine ⟨[(0, .slice B147 m148 d149), (1, .int .i64 x762), (2, .pointer (some (ea B147 (x762.toNat * 1)))), (3, .int .i64 x823), (4, .int .u64 x826), (5, .slice B160 m161 d162), (6, .int .i64 x762), (7, .pointer (some (ea B160 (x762.toNat * 1)))), (8, .int .i64 x828), (9, .slice B173 m174 d175), (10, .int .i64 x762), (11, .pointer (some (ea B173 (x762.toNat * 1)))), (12, .int .i64 x831), (13, .slice B186 m187 d188), (14, .int .i64 x762), (15, .pointer (some (ea B186 (x762.toNat * 1)))), (16, str x834), (17, .slice B199 m200 d201), (18, .int .i64 x762), (19, .pointer (some (ea B199 (x762.toNat * 1)))), (20, .float .f64 x837), (21, .agg #[.int .u64 x826, .int .i64 x828, .int .i64 x831, str x834, .float .f64 x837])], ?_⟩
    refine dEff [0, 1, 2, 3, 4, 5, 6, 7, 8, 9, 10, 11, 12, 13, 14, 15, 16, 17, 18, 19, 20, 21] [22] (by kernel_rfl) ⟨pu rfl rfl [(15, .slice B147 m148 d149)] (fun ac hA => y_move hA rfl rfl) rfl rfl, pu rfl rfl [(27, .int .i64 x762)] (fun ac hA => y_move hA rfl rfl) rfl rfl, pu rfl rfl [(116, .slice B147 m148 d149), (117, .int .i64 x762)] (fun ac hA => y_ia Tryz.underlying39 sz2 (hS.rd 0 rfl) h824 hA rfl rfl rfl) rfl rfl, pu rfl rfl [(118, .pointer (some (ea B147 (x762.toNat * 1))))] (fun ac hA => y_ld Tryz.underlying2 (hc825 0 _ rfl) hA rfl rfl rfl) rfl rfl, pu rfl rfl [(119, .int .i64 x823)] (fun ac hA => (rv_i h827 (r_convI Tryz.underlying2 Tryz.underlying34 rfl (hA.ev rfl)) : RunV _ _ _ _ (.int .u64 x826))) rfl rfl, pu rfl rfl [(17, .slice B160 m161 d162)] (fun ac hA => y_move hA rfl rfl) rfl rfl, pu rfl rfl [(27, .int .i64 x762)] (fun ac hA => y_move hA rfl rfl) rfl rfl, pu rfl rfl [(121, .slice B160 m161 d162), (122, .int .i64 x762)] (fun ac hA => y_ia Tryz.underlying39 sz2 (hS.rd 1 rfl) h829 hA rfl rfl rfl) rfl rfl, pu rfl rfl [(123, .pointer (some (ea B160 (x762.toNat * 1))))] (fun ac hA => y_ld Tryz.underlying2 (hc830 0 _ rfl) hA rfl rfl rfl) rfl rfl, pu rfl rfl [(19, .slice B173 m174 d175)] (fun ac hA => y_move hA rfl rfl) rfl rfl, pu rfl rfl [(27, .int .i64 x762)] (fun ac hA => y_move hA rfl rfl) rfl rfl, pu rfl rfl [(125, .slice B173 m174 d175), (126, .int .i64 x762)] (fun ac hA => y_ia Tryz.underlying39 sz2 (hS.rd 2 rfl) h832 hA rfl rfl rfl) rfl rfl, pu rfl rfl [(127, .pointer (some (ea B173 (x762.toNat * 1))))] (fun ac hA => y_ld Tryz.underlying2 (hc833 0 _ rfl) hA rfl rfl rfl) rfl rfl, pu rfl rfl [(21, .slice B186 m187 d188)] (fun ac hA => y_move hA rfl rfl) rfl rfl, pu rfl rfl [(27, .int .i64 x762)] (fun ac hA => y_move hA rfl rfl) rfl rfl, pu rfl rfl [(129, .slice B186 m187 d188), (130, .int .i64 x762)] (fun ac hA => y_ia Tryz.underlying40 sz9 (hS.rd 3 rfl) h835 hA rfl rfl rfl) rfl rfl, pu rfl rfl [(131, .pointer (some (ea B186 (x762.toNat * 1))))] (fun ac hA => y_ld Tryz.underlying9 (hc836 0 _ rfl) hA rfl rfl rfl) rfl rfl, pu rfl rfl [(23, .slice B199 m200 d201)] (fun ac hA => y_move hA rfl rfl) rfl rfl, pu rfl rfl [(27, .int .i64 x762)] (fun ac hA => y_move hA rfl rfl) rfl rfl, pu rfl rfl [(133, .slice B199 m200 d201), (134, .int .i64 x762)] (fun ac hA => y_ia Tryz.underlying41 sz35 (hS.rd 4 rfl) h838 hA rfl rfl rfl) rfl rfl, pu rfl rfl [(135, .pointer (some (ea B199 (x762.toNat * 1))))] (fun ac hA => y_ld Tryz.underlying35 (hc839 0 _ rfl) hA rfl rfl rfl) rfl rfl, pu rfl rfl [(120, .int .u64 x826), (124, .int .i64 x828), (128, .int .i64 x831), (132, str x834), (136, .float .f64 x837)] (fun ac hA => (r_build (ps := #[(0, .int .u64 x826), (1, .int .i64 x828), (2, .int .i64 x831), (3, str x834), (4, .float .f64 x837)]) rfl (mapev2 hA rfl) (fun w => by kernel_rfl) : RunV _ _ _ _ (.agg #[.int .u64 x826, .int .i64 x828, .int .i64 x831, str x834, .float .f64 x837]))) rfl rfl, trivial⟩ (by kernel_rfl) (by kernel_rfl) ⟨ef rfl [] (fun ac hA K hK => ?_) rfl rfl, trivial⟩
    refine z_alloc (cs := [.int .u64 0, .int .i64 0, .int .i64 0, str [], .float .f64 0]) zr37 hA hS (fun g840 w hS => ?_) rfl rfl
    obtain ⟨cs, hV, hc841⟩ := el (hS.rd 1 rfl) h824
    obtain rfl := hV
    obtain ⟨cs, hV, hc842⟩ := el (hS.rd 2 rfl) h829
    obtain rfl := hV
    obtain ⟨cs, hV, hc843⟩ := el (hS.rd 3 rfl) h832
    obtain rfl := hV
    obtain ⟨cs, hV, hc844⟩ := el (hS.rd 4 rfl) h835
    obtain rfl := hV
    obtain ⟨cs, hV, hc845⟩ := el (hS.rd 5 rfl) h838
    obtain rfl := hV
    refine hK _ [] _ rfl ?_
    refine dEff [0, 1, 2, 3, 4, 5, 6, 7, 8, 9, 10, 11, 12, 13, 14, 15, 16, 17, 18, 19, 20, 21] [23] (by kernel_rfl) ⟨pu rfl rfl [(15, .slice B147 m148 d149)] (fun ac hA => y_move hA rfl rfl) rfl rfl, pu rfl rfl [(27, .int .i64 x762)] (fun ac hA => y_move hA rfl rfl) rfl rfl, pu rfl rfl [(116, .slice B147 m148 d149), (117, .int .i64 x762)] (fun ac hA => y_ia Tryz.underlying39 sz2 (hS.rd 1 rfl) h824 hA rfl rfl rfl) rfl rfl, pu rfl rfl [(118, .pointer (some (ea B147 (x762.toNat * 1))))] (fun ac hA => y_ld Tryz.underlying2 (hc841 0 _ rfl) hA rfl rfl rfl) rfl rfl, pu rfl rfl [(119, .int .i64 x823)] (fun ac hA => (rv_i h827 (r_convI Tryz.underlying2 Tryz.underlying34 rfl (hA.ev rfl)) : RunV _ _ _ _ (.int .u64 x826))) rfl rfl, pu rfl rfl [(17, .slice B160 m161 d162)] (fun ac hA => y_move hA rfl rfl) rfl rfl, pu rfl rfl [(27, .int .i64 x762)] (fun ac hA => y_move hA rfl rfl) rfl rfl, pu rfl rfl [(121, .slice B160 m161 d162), (122, .int .i64 x762)] (fun ac hA => y_ia Tryz.underlying39 sz2 (hS.rd 2 rfl) h829 hA rfl rfl rfl) rfl rfl, pu rfl rfl [(123, .pointer (some (ea B160 (x762.toNat * 1))))] (fun ac hA => y_ld Tryz.underlying2 (hc842 0 _ rfl) hA rfl rfl rfl) rfl rfl, pu rfl rfl [(19, .slice B173 m174 d175)] (fun ac hA => y_move hA rfl rfl) rfl rfl, pu rfl rfl [(27, .int .i64 x762)] (fun ac hA => y_move hA rfl rfl) rfl rfl, pu rfl rfl [(125, .slice B173 m174 d175), (126, .int .i64 x762)] (fun ac hA => y_ia Tryz.underlying39 sz2 (hS.rd 3 rfl) h832 hA rfl rfl rfl) rfl rfl, pu rfl rfl [(127, .pointer (some (ea B173 (x762.toNat * 1))))] (fun ac hA => y_ld Tryz.underlying2 (hc843 0 _ rfl) hA rfl rfl rfl) rfl rfl, pu rfl rfl [(21, .slice B186 m187 d188)] (fun ac hA => y_move hA rfl rfl) rfl rfl, pu rfl rfl [(27, .int .i64 x762)] (fun ac hA => y_move hA rfl rfl) rfl rfl, pu rfl rfl [(129, .slice B186 m187 d188), (130, .int .i64 x762)] (fun ac hA => y_ia Tryz.underlying40 sz9 (hS.rd 4 rfl) h835 hA rfl rfl rfl) rfl rfl, pu rfl rfl [(131, .pointer (some (ea B186 (x762.toNat * 1))))] (fun ac hA => y_ld Tryz.underlying9 (hc844 0 _ rfl) hA rfl rfl rfl) rfl rfl, pu rfl rfl [(23, .slice B199 m200 d201)] (fun ac hA => y_move hA rfl rfl) rfl rfl, pu rfl rfl [(27, .int .i64 x762)] (fun ac hA => y_move hA rfl rfl) rfl rfl, pu rfl rfl [(133, .slice B199 m200 d201), (134, .int .i64 x762)] (fun ac hA => y_ia Tryz.underlying41 sz35 (hS.rd 5 rfl) h838 hA rfl rfl rfl) rfl rfl, pu rfl rfl [(135, .pointer (some (ea B199 (x762.toNat * 1))))] (fun ac hA => y_ld Tryz.underlying35 (hc845 0 _ rfl) hA rfl rfl rfl) rfl rfl, pu rfl rfl [(120, .int .u64 x826), (124, .int .i64 x828), (128, .int .i64 x831), (132, str x834), (136, .float .f64 x837)] (fun ac hA => (r_build (ps := #[(0, .int .u64 x826), (1, .int .i64 x828), (2, .int .i64 x831), (3, str x834), (4, .float .f64 x837)]) rfl (mapev2 hA rfl) (fun w => by kernel_rfl) : RunV _ _ _ _ (.agg #[.int .u64 x826, .int .i64 x828, .int .i64 x831, str x834, .float .f64 x837]))) rfl rfl, trivial⟩ (by kernel_rfl) (by kernel_rfl) ⟨ef rfl [(28, .pointer (some ⟨g840, 0, none⟩)), (137, .agg #[.int .u64 x826, .int .i64 x828, .int .i64 x831, str x834, .float .f64 x837])] (fun ac hA K hK => ?_) rfl rfl, trivial⟩
    refine z_stb 0 sz37 hA hS rfl (fun  w hS => ?_) rfl rfl rfl rfl rfl rfl
    refine hK _ [] _ rfl ?_
    refine dEnd [] (by kernel_rfl) trivial ⟨by kernel_rfl, by kernel_rfl⟩ [(2, .int .i64 a2), (11, .int .i64 y103.2.2.1), (15, .slice B147 m148 d149), (17, .slice B160 m161 d162), (19, .slice B173 m174 d175), (21, .slice B186 m187 d188), (23, .slice B199 m200 d201), (26, .slice A759 n760 c761), (28, .pointer (some ⟨g840, 0, none⟩)), (112, .int .i64 (y145.1.length : Int)), (113, .int .i64 x762)] rfl (fun ac hA => ?_)
    refine hK822 _ _ ?_
    refine wp_seq_k fun K846 hK846 => ?_
    refine ws fun K847 hK847 => ?_
    refine x_lda (ad := ⟨g840, 0, none⟩) (cs := [.int .u64 x826, .int .i64 x828, .int .i64 x831, str x834, .float .f64 x837]) Tryz.underlying37 sz37 (fun j u h => by rw [add_mk, Nat.zero_add]; exact hS.cell 0 rfl j u h) hA (fun ac hA => ?_) rfl rfl rfl rfl rfl rfl
    refine x_m hA rfl fun ac hA => ?_
    obtain ⟨y848, h849, hF⟩ := bnd hF
    refine x_call en25 hA (F_event_Form (L := blk g840 37 [.int .u64 x826, .int .i64 x828, .int .i64 x831, str x834, .float .f64 x837] :: own (kI .i64) 2 B147 m148 d149 y145.1 :: own (kI .i64) 2 B160 m161 d162 y158.1 :: own (kI .i64) 2 B173 m174 d175 y171.1 :: own kS 9 B186 m187 d188 y184.1 :: own kF 35 B199 m200 d201 y197.1 :: own k37 37 A759 n760 c761 l758 :: zone Z128 wz129 :: L) (⟨x826, x828, x831, x834, x837⟩ : S37) a2 h849 hS) (fun v ac w hR hA => ?_) rfl rfl rfl rfl rfl
    obtain ⟨rfl, hS⟩ := hR
    refine x_v hA (r_not rfl (hA.ev rfl)) rfl fun ac hA => ?_
    refine wn (hK847 _ _ ?_)
    refine c_if hA rfl (fun hb850 => ?_) fun hb850 => ?_
    ·replace hF := ift hb850 hF
     refine ws fun K851 hK851 => ?_
     refine x_m hA rfl fun ac hA => ?_
     refine x_m hA rfl fun ac hA => ?_
     refine x_m hA rfl fun ac hA => ?_
     refine wn (hK851 _ _ ?_)
     refine wp_ret ?_
     replace hS := SH.nil_own (d := k37) (e := 37) hS
     replace hS := hS.drop 1
     replace hS := hS.drop 1
     replace hS := hS.drop 1
     replace hS := hS.drop 1
     replace hS := hS.drop 1
     replace hS := hS.drop 1
     replace hS := hS.drop 1
     replace hS := hS.pk 1
     replace hS := hS.pk 1
     cases hF
     have ht := T814_ _ rfl
     subst ht
     replace hF := hR814
     replace hF : some ([], 0, 3) = some y := hF
     cases hF
     refine hQ _ _ ?_
     refine lv3 Tryz.results7 hA rfl rfl rfl ?_
     exact ⟨Z128, wz129, none, 0, 0, rfl, h130, hS⟩
    replace hF := iff' hb850 hF
    refine wp_skip ?_
    refine hK846 _ _ ?_
    refine wp_reg ?_
    refine x_m hA rfl fun ac hA => ?_
    refine x_lda (ad := ⟨g840, 0, none⟩) (cs := [.int .u64 x826, .int .i64 x828, .int .i64 x831, str x834, .float .f64 x837]) Tryz.underlying37 sz37 (fun j u h => by rw [add_mk, Nat.zero_add]; exact hS.cell 0 rfl j u h) hA (fun ac hA => ?_) rfl rfl rfl rfl rfl rfl
    refine x_bsl (d := k37) (e := 37) (ps := #[(0, .agg #[.int .u64 x826, .int .i64 x828, .int .i64 x831, str x834, .float .f64 x837])]) (cells := [.int .u64 x826, .int .i64 x828, .int .i64 x831, str x834, .float .f64 x837]) (xs := [(⟨x826, x828, x831, x834, x837⟩ : S37)]) (fun w => by kernel_rfl) rfl ⟨[.int .u64 x826, .int .i64 x828, .int .i64 x831, str x834, .float .f64 x837], _, rfl, rfl, rfl⟩ hA hS (fun g852 ac w hS hA => ?_) rfl rfl rfl rfl rfl rfl
    obtain ⟨h853, hF⟩ := chk_some hF
    have hr := hS.rd 0 rfl
    refine x_app 7 inf37 Tryz.underlying23 hA hS hr.1 hr.2.1 h853 rfl (fun A854 n855 c856 ac w hS hA => ?_) rfl rfl rfl rfl rfl rfl rfl rfl rfl
    refine x_m hA rfl fun ac hA => ?_
    refine wpList_nil ?_
    refine hKx820 _ _ ?_
    refine hK819 _ _ ?_
    refine wp_reg ?_
    obtain ⟨x857, h858, hF⟩ := ltt_ hF
    refine x_v (v := .int .i64 x857) hA (rv_i h858 (r_add rfl (hA.ev rfl) (hA.ev rfl))) rfl fun ac hA => ?_
    refine x_m hA rfl fun ac hA => ?_
    refine wpList_nil ?_
    replace hS := hS.drop 1
    replace hS := hS.drop 1
    replace hS := hS.pk 6
    replace hS := hS.pk 1
    replace hS := hS.pk 6
    replace hS := hS.pk 6
    replace hS := hS.pk 6
    replace hS := hS.pk 6
    replace hS := hS.pk 6
    cases hF
    exact ⟨_, N814_ _ rfl, A854, n855, c856, hA.sub _ rfl, hS⟩
   replace hF := iff' hb818 hF
   refine wp_exit ?_
   replace hS := hS.drop 0
   replace hS := hS.drop 0
   replace hS := hS.drop 0
   replace hS := hS.drop 0
   replace hS := hS.drop 0
   cases hF
   exact hx814_0 l758 (T814_ _ rfl) A759 n760 c761 ac w (hA.sub _ rfl) hS
  refine wp_reg ?_
  refine x_m hA rfl fun ac hA => ?_
  refine x_m hA rfl fun ac hA => ?_
  refine x_m hA rfl fun ac hA => ?_
  refine x_m hA rfl fun ac hA => ?_
  refine x_m hA rfl fun ac hA => ?_
  refine x_bsl (d := (kI .i64)) (e := 27) (ps := #[(0, .int .i64 y145.2), (1, .int .i64 y158.2), (2, .int .i64 y171.2), (3, .int .i64 y184.2), (4, .int .i64 y197.2)]) (cells := [.int .i64 y145.2, .int .i64 y158.2, .int .i64 y171.2, .int .i64 y184.2, .int .i64 y197.2]) (xs := [y145.2, y158.2, y171.2, y184.2, y197.2]) (fun w => by kernel_rfl) rfl ⟨[.int .i64 y145.2], _, rfl, rfl, ⟨[.int .i64 y158.2], _, rfl, rfl, ⟨[.int .i64 y171.2], _, rfl, rfl, ⟨[.int .i64 y184.2], _, rfl, rfl, ⟨[.int .i64 y197.2], _, rfl, rfl, rfl⟩⟩⟩⟩⟩ hA hS (fun g859 ac w hS hA => ?_) rfl rfl rfl rfl rfl rfl
  obtain ⟨y860, h861, hF⟩ := bnd hF
  refine x_call en24 hA (F_slices_Contains_api_Errno_api_Errno (L := own (kI .i64) 27 (some ⟨g859, 0, none⟩) 5 5 [y145.2, y158.2, y171.2, y184.2, y197.2] :: own kF 35 B199 m200 d201 y197.1 :: own kS 9 B186 m187 d188 y184.1 :: own (kI .i64) 2 B173 m174 d175 y171.1 :: own (kI .i64) 2 B160 m161 d162 y158.1 :: own (kI .i64) 2 B147 m148 d149 y145.1 :: own (kM Z128 wz129 (kI .u8)) 50 (some ⟨g113, 0, none⟩) 5 5 l131 :: zone Z128 wz129 :: L) [y145.2, y158.2, y171.2, y184.2, y197.2] 3 (some ⟨g859, 0, none⟩) 5 5 h861 (RdL.own 0 rfl (hS.dropN 0)) hS) (fun v ac w hR hA => ?_) rfl rfl rfl rfl rfl
  obtain ⟨rfl, hS⟩ := hR
  refine x_m hA rfl fun ac hA => ?_
  refine bcase (b := y860) (fun hb862 => ?_) fun hb862 => ?_
  ·replace hF := ift hb862 hF
   refine x_off hb862 hA (fun ac hA => ?_) rfl rfl rfl rfl rfl
   refine x_off hb862 hA (fun ac hA => ?_) rfl rfl rfl rfl rfl
   refine x_off hb862 hA (fun ac hA => ?_) rfl rfl rfl rfl rfl
   refine x_off hb862 hA (fun ac hA => ?_) rfl rfl rfl rfl rfl
   refine x_pickt hb862 hA (fun ac hA => ?_) rfl rfl rfl rfl rfl rfl
   refine x_m hA rfl fun ac hA => ?_
   refine x_off rfl hA (fun ac hA => ?_) rfl rfl rfl rfl rfl
   refine x_off rfl hA (fun ac hA => ?_) rfl rfl rfl rfl rfl
   refine x_off rfl hA (fun ac hA => ?_) rfl rfl rfl rfl rfl
   refine x_off rfl hA (fun ac hA => ?_) rfl rfl rfl rfl rfl
   refine x_pickt rfl hA (fun ac hA => ?_) rfl rfl rfl rfl rfl rfl
   refine x_m hA rfl fun ac hA => ?_
   refine x_off rfl hA (fun ac hA => ?_) rfl rfl rfl rfl rfl
   refine x_off rfl hA (fun ac hA => ?_) rfl rfl rfl rfl rfl
   refine x_off rfl hA (fun ac hA => ?_) rfl rfl rfl rfl rfl
   refine x_off rfl hA (fun ac hA => ?_) rfl rfl rfl rfl rfl
   refine x_pickt rfl hA (fun ac hA => ?_) rfl rfl rfl rfl rfl rfl
   refine x_m hA rfl fun ac hA => ?_
   refine x_off rfl hA (fun ac hA => ?_) rfl rfl rfl rfl rfl
   refine x_off rfl hA (fun ac hA => ?_) rfl rfl rfl rfl rfl
   refine x_off rfl hA (fun ac hA => ?_) rfl rfl rfl rfl rfl
   refine x_off rfl hA (fun ac hA => ?_) rfl rfl rfl rfl rfl
   refine x_pickt rfl hA (fun ac hA => ?_) rfl rfl rfl rfl rfl rfl
   refine wpList_nil ?_
   replace hS := hS.drop 0
   replace hS := hS.drop 5
   replace hS := hS.pk 5
   replace hS := hS.pk 1
   replace hS := hS.pk 2
   replace hS := hS.pk 3
   replace hS := hS.pk 4
   replace hS := hS.pk 5
   exact hj2 true hF ac w (hA.sub _ rfl) hS
  replace hF := iff' hb862 hF
  refine x_on hb862 hA ?_ rfl rfl rfl
  refine x_m hA rfl fun ac hA => ?_
  refine x_on hb862 hA ?_ rfl rfl rfl
  refine x_len Tryz.underlying39 (hS.rd 4 rfl).2.1 hA (fun ac hA => ?_) rfl rfl rfl rfl rfl
  refine x_on hb862 hA ?_ rfl rfl rfl
  refine x_m hA rfl fun ac hA => ?_
  refine x_on hb862 hA ?_ rfl rfl rfl
  refine x_v hA (r_neI rfl (hA.ev rfl) (hA.ev rfl)) rfl fun ac hA => ?_
  refine x_pickf hb862 hA (fun ac hA => ?_) rfl rfl rfl rfl rfl rfl
  refine x_m hA rfl fun ac hA => ?_
  refine bcase (b := (y158.1.length : Int) != (y145.1.length : Int)) (fun hb863 => ?_) fun hb863 => ?_
  ·replace hF := ift hb863 hF
   refine x_off hb863 hA (fun ac hA => ?_) rfl rfl rfl rfl rfl
   refine x_off hb863 hA (fun ac hA => ?_) rfl rfl rfl rfl rfl
   refine x_off hb863 hA (fun ac hA => ?_) rfl rfl rfl rfl rfl
   refine x_off hb863 hA (fun ac hA => ?_) rfl rfl rfl rfl rfl
   refine x_pickt hb863 hA (fun ac hA => ?_) rfl rfl rfl rfl rfl rfl
   refine x_m hA rfl fun ac hA => ?_
   refine x_off rfl hA (fun ac hA => ?_) rfl rfl rfl rfl rfl
   refine x_off rfl hA (fun ac hA => ?_) rfl rfl rfl rfl rfl
   refine x_off rfl hA (fun ac hA => ?_) rfl rfl rfl rfl rfl
   refine x_off rfl hA (fun ac hA => ?_) rfl rfl rfl rfl rfl
   refine x_pickt rfl hA (fun ac hA => ?_) rfl rfl rfl rfl rfl rfl
   refine x_m hA rfl fun ac hA => ?_
   refine x_off rfl hA (fun ac hA => ?_) rfl rfl rfl rfl rfl
   refine x_off rfl hA (fun ac hA => ?_) rfl rfl rfl rfl rfl
   refine x_off rfl hA (fun ac hA => ?_) rfl rfl rfl rfl rfl
   refine x_off rfl hA (fun ac hA => ?_) rfl rfl rfl rfl rfl
   refine x_pickt rfl hA (fun ac hA => ?_) rfl rfl rfl rfl rfl rfl
   refine wpList_nil ?_
   replace hS := hS.drop 0
   replace hS := hS.drop 5
   replace hS := hS.pk 5
   replace hS := hS.pk 1
   replace hS := hS.pk 2
   replace hS := hS.pk 3
   replace hS := hS.pk 4
   replace hS := hS.pk 5
   exact hj2 true hF ac w (hA.sub _ rfl) hS
  replace hF := iff' hb863 hF
  refine x_on hb863 hA ?_ rfl rfl rfl
  refine x_m hA rfl fun ac hA => ?_
  refine x_on hb863 hA ?_ rfl rfl rfl
  refine x_len Tryz.underlying39 (hS.rd 3 rfl).2.1 hA (fun ac hA => ?_) rfl rfl rfl rfl rfl
  refine x_on hb863 hA ?_ rfl rfl rfl
  refine x_m hA rfl fun ac hA => ?_
  refine x_on hb863 hA ?_ rfl rfl rfl
  refine x_v hA (r_neI rfl (hA.ev rfl) (hA.ev rfl)) rfl fun ac hA => ?_
  refine x_pickf hb863 hA (fun ac hA => ?_) rfl rfl rfl rfl rfl rfl
  refine x_m hA rfl fun ac hA => ?_
  refine bcase (b := (y171.1.length : Int) != (y145.1.length : Int)) (fun hb864 => ?_) fun hb864 => ?_
  ·replace hF := ift hb864 hF
   refine x_off hb864 hA (fun ac hA => ?_) rfl rfl rfl rfl rfl
   refine x_off hb864 hA (fun ac hA => ?_) rfl rfl rfl rfl rfl
   refine x_off hb864 hA (fun ac hA => ?_) rfl rfl rfl rfl rfl
   refine x_off hb864 hA (fun ac hA => ?_) rfl rfl rfl rfl rfl
   refine x_pickt hb864 hA (fun ac hA => ?_) rfl rfl rfl rfl rfl rfl
   refine x_m hA rfl fun ac hA => ?_
   refine x_off rfl hA (fun ac hA => ?_) rfl rfl rfl rfl rfl
   refine x_off rfl hA (fun ac hA => ?_) rfl rfl rfl rfl rfl
   refine x_off rfl hA (fun ac hA => ?_) rfl rfl rfl rfl rfl
   refine x_off rfl hA (fun ac hA => ?_) rfl rfl rfl rfl rfl
   refine x_pickt rfl hA (fun ac hA => ?_) rfl rfl rfl rfl rfl rfl
   refine wpList_nil ?_
   replace hS := hS.drop 0
   replace hS := hS.drop 5
   replace hS := hS.pk 5
   replace hS := hS.pk 1
   replace hS := hS.pk 2
   replace hS := hS.pk 3
   replace hS := hS.pk 4
   replace hS := hS.pk 5
   exact hj2 true hF ac w (hA.sub _ rfl) hS
  replace hF := iff' hb864 hF
  refine x_on hb864 hA ?_ rfl rfl rfl
  refine x_m hA rfl fun ac hA => ?_
  refine x_on hb864 hA ?_ rfl rfl rfl
  refine x_len Tryz.underlying40 (hS.rd 2 rfl).2.1 hA (fun ac hA => ?_) rfl rfl rfl rfl rfl
  refine x_on hb864 hA ?_ rfl rfl rfl
  refine x_m hA rfl fun ac hA => ?_
  refine x_on hb864 hA ?_ rfl rfl rfl
  refine x_v hA (r_neI rfl (hA.ev rfl) (hA.ev rfl)) rfl fun ac hA => ?_
  refine x_pickf hb864 hA (fun ac hA => ?_) rfl rfl rfl rfl rfl rfl
  refine x_m hA rfl fun ac hA => ?_
  refine bcase (b := (y184.1.length : Int) != (y145.1.length : Int)) (fun hb865 => ?_) fun hb865 => ?_
  ·replace hF := ift hb865 hF
   refine x_off hb865 hA (fun ac hA => ?_) rfl rfl rfl rfl rfl
   refine x_off hb865 hA (fun ac hA => ?_) rfl rfl rfl rfl rfl
   refine x_off hb865 hA (fun ac hA => ?_) rfl rfl rfl rfl rfl
   refine x_off hb865 hA (fun ac hA => ?_) rfl rfl rfl rfl rfl
   refine x_pickt hb865 hA (fun ac hA => ?_) rfl rfl rfl rfl rfl rfl
   refine wpList_nil ?_
   replace hS := hS.drop 0
   replace hS := hS.drop 5
   replace hS := hS.pk 5
   replace hS := hS.pk 1
   replace hS := hS.pk 2
   replace hS := hS.pk 3
   replace hS := hS.pk 4
   replace hS := hS.pk 5
   exact hj2 true hF ac w (hA.sub _ rfl) hS
  replace hF := iff' hb865 hF
  refine x_on hb865 hA ?_ rfl rfl rfl
  refine x_m hA rfl fun ac hA => ?_
  refine x_on hb865 hA ?_ rfl rfl rfl
  refine x_len Tryz.underlying41 (hS.rd 1 rfl).2.1 hA (fun ac hA => ?_) rfl rfl rfl rfl rfl
  refine x_on hb865 hA ?_ rfl rfl rfl
  refine x_m hA rfl fun ac hA => ?_
  refine x_on hb865 hA ?_ rfl rfl rfl
  refine x_v hA (r_neI rfl (hA.ev rfl) (hA.ev rfl)) rfl fun ac hA => ?_
  refine x_pickf hb865 hA (fun ac hA => ?_) rfl rfl rfl rfl rfl rfl
  refine wpList_nil ?_
  replace hS := hS.drop 0
  replace hS := hS.drop 5
  replace hS := hS.pk 5
  replace hS := hS.pk 1
  replace hS := hS.pk 2
  replace hS := hS.pk 3
  replace hS := hS.pk 4
  replace hS := hS.pk 5
  exact hj2 ((y197.1.length : Int) != (y145.1.length : Int)) hF ac w (hA.sub _ rfl) hS
 refine wp_reg ?_
 refine x_m hA rfl fun ac hA => ?_
 refine x_v hA (r_eqI rfl (hA.ev rfl) (hA.ev rfl)) rfl fun ac hA => ?_
 refine x_m hA rfl fun ac hA => ?_
 refine bcase (b := y103.1 == 101) (fun hb866 => ?_) fun hb866 => ?_
 ·replace hF := ift hb866 hF
  refine x_on hb866 hA ?_ rfl rfl rfl
  refine x_m hA rfl fun ac hA => ?_
  refine x_on hb866 hA ?_ rfl rfl rfl
  refine x_v hA (r_makeFunc rfl (mapev (vals := #[]) hA rfl) (mapev (vals := #[.pointer (some ⟨g113, 0, none⟩)]) hA rfl)) rfl fun ac hA => ?_
  refine x_on hb866 hA ?_ rfl rfl rfl
  replace hS := hS.pk 2
  replace hS := hS.pk 2
  obtain ⟨Z867, wz868, hS, h869, sb870⟩ := SH.freeze (n := m106) (c := d107) (A := B105) hS
  have h871 := Imm.sub ha0 sb870
  replace hS := hS.pk 1
  replace hS := hS.kind (d' := (kM Z867 wz868 (kI .u8))) rfl (kM_sub sb870)
  replace hS := hS.pk 1
  replace hS := hS.pk 1
  obtain ⟨y872, h873, hF⟩ := bnd hF
  refine x_call en18 hA (F_Try_event_Read_1 (L := L) y103.2.1 ([[], [], [], [], []] : List (List Int)) B105 m106 d107 g113 h873 h869 hS) (fun v ac w hR hA => ?_) rfl rfl rfl rfl rfl
  obtain ⟨Z874, wz875, rfl, h876, hS⟩ := hR
  have h877 := Imm.sub h871 h876
  have h878 := Imm.sub h869 h876
  refine x_pickt hb866 hA (fun ac hA => ?_) rfl rfl rfl rfl rfl rfl
  refine x_m hA rfl fun ac hA => ?_
  refine wpList_nil ?_
  exact hj1 y872.2 y872.1 hF Z874 wz875 (Sub.trans sb870 h876) ac w (hA.sub _ rfl) hS
 replace hF := iff' hb866 hF
 refine x_off hb866 hA (fun ac hA => ?_) rfl rfl rfl rfl rfl
 refine x_off hb866 hA (fun ac hA => ?_) rfl rfl rfl rfl rfl
 refine x_off hb866 hA (fun ac hA => ?_) rfl rfl rfl rfl rfl
 refine x_pickf hb866 hA (fun ac hA => ?_) rfl rfl rfl rfl rfl rfl
 refine x_m hA rfl fun ac hA => ?_
 refine wpList_nil ?_
 replace hS := hS.drop 1
 exact hj1 ([[], [], [], [], []] : List (List Int)) false hF Z wz (Sub.refl _ _) ac w (hA.sub _ rfl) hS
end Go.Proofs.YthokgnonmcgkcaaGreatDoor.M
namespace Go.Proofs.YthokgnonmcgkcaaGreatDoor.M
open Go Go.RowKit Go.Proofs.YthokgnonmcgkcaaGreatDoor.E
set_option linter.unusedVariables false
set_option linter.unusedSimpArgs false
noncomputable def event_Lay_b2 (a0 : (List Int)) (l16840 : (List Int)) : Option ((List Int)) :=
  (page_Lay a0 101 l16840).bind fun y16845 => (some y16845)
noncomputable def event_Lay_x1_2 (a0 : (List Int)) (l16913 : (List Int)) : Option ((List Int)) :=
  event_Lay_b2 a0 l16913
noncomputable def event_Lay_l1 (y16695 : ((List Int))) (y16700 : ((List Int))) (y16705 : ((List Int))) (y16710 : ((List Int))) (y16715 : ((List Int))) (l16883 : (List Int)) (x16887 : Int) : Option (((List Int) × Int) ⊕ (((List Int)))) :=
  if (decide (x16887 < ([y16695, y16700, y16705, y16710, y16715].length : Int))) = true then ((at_ [y16695, y16700, y16705, y16710, y16715] x16887).bind fun x16924 => ((column_Text l16883 (bts x16924)).bind fun y16931 => (ltt (IntKind.i64.wrap (x16887 + 1)) fun x16936 => (some (.inl (y16931, x16936)))))) else (some (.inr (l16883)))
noncomputable def event_Lay_b1 (a0 : (List Int)) (l16433 : (List Int)) (l16437 : (List Int)) (l16441 : (List Int)) (l16445 : (List (List UInt8))) (l16449 : (List Nat)) : Option ((List Int)) :=
  (column_Ints l16433).bind fun y16695 => ((column_Ints l16437).bind fun y16700 => ((column_Ints l16441).bind fun y16705 => ((column_Texts l16445).bind fun y16710 => ((column_Reals l16449).bind fun y16715 => ((loop (fun s => event_Lay_l1 y16695 y16700 y16705 y16710 y16715 s.1 s.2) ([], 0)).bind fun t => event_Lay_x1_2 a0 t)))))
noncomputable def event_Lay_x2_0 (a0 : (List Int)) (l20581 : (List Int)) (l20585 : (List Int)) (l20589 : (List Int)) (l20593 : (List (List UInt8))) (l20597 : (List Nat)) : Option ((List Int)) :=
  event_Lay_b1 a0 l20581 l20585 l20589 l20593 l20597
noncomputable def event_Lay_b3 (x18789 : Int) (l21919 : (List Int)) (l21923 : (List Int)) (l21927 : (List Int)) (l21931 : (List (List UInt8))) (l21935 : (List Nat)) : Option (((List Int) × (List Int) × (List Int) × (List (List UInt8)) × (List Nat) × Int) ⊕ (((List Int) × (List Int) × (List Int) × (List (List UInt8)) × (List Nat)))) :=
  ltt (IntKind.i64.wrap (x18789 + 1)) fun x21939 => (some (.inl (l21919, l21923, l21927, l21931, l21935, x21939)))
noncomputable def event_Lay_j1 (l18773 : (List Int)) (l18777 : (List Int)) (l18781 : (List (List UInt8))) (l18785 : (List Nat)) (x18789 : Int) (x21942 : S37) (l22139 : (List Int)) : Option (((List Int) × (List Int) × (List Int) × (List (List UInt8)) × (List Nat) × Int) ⊕ (((List Int) × (List Int) × (List Int) × (List (List UInt8)) × (List Nat)))) :=
  chk (l18781.length + [x21942.f3].length ≤ 140737488355328 / 16) (chk (l18785.length + [x21942.f4].length ≤ 140737488355328 / 8) (event_Lay_b3 x18789 l22139 (l18773 ++ [x21942.f1]) (l18777 ++ [x21942.f2]) (l18781 ++ [x21942.f3]) (l18785 ++ [x21942.f4])))
noncomputable def event_Lay_l2 (a1 : (List S37)) (l18769 : (List Int)) (l18773 : (List Int)) (l18777 : (List Int)) (l18781 : (List (List UInt8))) (l18785 : (List Nat)) (x18789 : Int) : Option (((List Int) × (List Int) × (List Int) × (List (List UInt8)) × (List Nat) × Int) ⊕ (((List Int) × (List Int) × (List Int) × (List (List UInt8)) × (List Nat)))) :=
  if (decide (x18789 < (a1.length : Int))) = true then ((at_ a1 x18789).bind fun x21942 => (ltt (IntKind.i64.wrap x21942.f0) fun x22178 => (chk (l18769.length + [x22178].length ≤ 140737488355328 / 8) (chk (l18773.length + [x21942.f1].length ≤ 140737488355328 / 8) (chk (l18777.length + [x21942.f2].length ≤ 140737488355328 / 8) (event_Lay_j1 l18773 l18777 l18781 l18785 x18789 x21942 (l18769 ++ [x22178]))))))) else (some (.inr (l18769, l18773, l18777, l18781, l18785)))
noncomputable def event_Lay (a0 : (List Int)) (a1 : (List S37)) : Option ((List Int)) :=
  (loop (fun s => event_Lay_l2 a1 s.1 s.2.1 s.2.2.1 s.2.2.2.1 s.2.2.2.2.1 s.2.2.2.2.2) ([], [], [], [], [], 0)).bind fun t => event_Lay_x2_0 a0 t.1 t.2.1 t.2.2.1 t.2.2.2.1 t.2.2.2.2
end Go.Proofs.YthokgnonmcgkcaaGreatDoor.M
