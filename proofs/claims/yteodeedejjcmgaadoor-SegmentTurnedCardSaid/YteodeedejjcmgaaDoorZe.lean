/- Texts of the claim, joined: what it uses of Mev, Del, Mel, Drl, Mrl, Dsc. -/
import Derived.Test.YteodeedejjcmgaaDoorZd
namespace Go.Proofs.YteodeedejjcmgaaDoor.M
open Go Go.RowKit Go.Proofs.YteodeedejjcmgaaDoor.E
set_option linter.unusedVariables false
set_option maxRecDepth 100000
set_option maxHeartbeats 4000000
set_option linter.unusedSimpArgs false
theorem F_slices_Index_api_Errno_api_Errno {r : World} {L : List HP} {w : World} (a0 : (List Int)) (a1 : Int) (A0 : Option Addr) (n0 : Nat) (c0 : Nat) {y : (Int)} (G : slices_Index_api_Errno_api_Errno a0 a1 = some y) (ha0 : RdL L (kI .i64) A0 n0 c0 a0) (X : SH r (L) w) :
  Ret Tryd.prog 82 #[.slice A0 n0 c0, .int .i64 a1] w fun v w' => v = .int .i64 y ∧ SH r (L) w' := by
 refine enter Tryd.func82 rfl Tryd.ntmps82 [(0, .slice A0 n0 c0), (1, .int .i64 a1)] rfl (by simp) ?_
 intro U J Qf hQ hQn
 unfold slices_Index_api_Errno_api_Errno at G
 refine ws fun K100 hK100 => ?_
 refine x_m J rfl fun U J => ?_
 refine wn (hK100 _ _ ?_)
 refine wp_seq_k fun K101 hK101 => ?_
 refine ws fun K102 hK102 => ?_
 refine x_m J rfl fun U J => ?_
 refine x_len' uu119 (X.rdl 0 ha0 rfl).2.1 J (fun U J => ?_) rfl
 refine x_m J rfl fun U J => ?_
 refine wn (hK102 _ _ ?_)
 refine wp_block_k fun Kx103 hKx103 => ?_
 have hb1 : slices_Index_api_Errno_api_Errno_b1 = some y → ∀ (U : Act) (w : World), FR 19 [] U [] → SH r (L) w → Kx103 U w := by
  intro G U w J X
  unfold slices_Index_api_Errno_api_Errno_b1 at G
  refine hKx103 _ _ ?_
  refine hK101 _ _ ?_
  refine ws fun K104 hK104 => ?_
  refine x_m J rfl fun U J => ?_
  refine wn (hK104 _ _ ?_)
  refine wp_ret ?_
  cases G
  refine hQ _ _ ?_
  refine lv Tryd.results82 J rfl ?_
  exact ⟨rfl, X⟩
 obtain ⟨t105, hl105, G⟩ := bnd G
 have hR105 := G
 have hx105_0 : (.inl ()) = t105 → ∀ (U : Act) (w : World), FR 19 [] U [] → SH r (L) w → Kx103 U w := by
  intro ht U w J X
  subst ht
  replace G : slices_Index_api_Errno_api_Errno_x1_0 = some y := G
  unfold slices_Index_api_Errno_api_Errno_x1_0 at G
  exact hb1 G U w (J.sub _ rfl) X
 refine wp_loop_fn hl105 (fun s U w => FR 19 [] U [(0, .slice A0 n0 c0), (1, .int .i64 a1), (7, .int .i64 (a0.length : Int)), (8, .int .i64 s)] ∧ SH r (L) w) ⟨J.sub _ rfl, X⟩ ?_
 intro N105 s105 o105 G N105_ T105_ U w hLab
 obtain ⟨x106, rfl⟩ : ∃ q, q = s105 := ⟨_, rfl⟩
 replace G : slices_Index_api_Errno_api_Errno_l1 a0 a1 x106 = some o105 := G
 unfold slices_Index_api_Errno_api_Errno_l1 at G
 try dsimp only at hLab
 obtain ⟨J, X⟩ := hLab
 refine ws fun K107 hK107 => ?_
 refine x_v J (r_ltI rfl (J.ev rfl) (J.ev rfl)) rfl fun U J => ?_
 refine wn (hK107 _ _ ?_)
 refine wp_seq_k fun K108 hK108 => ?_
 refine c_if J rfl (fun hb109 => ?_) fun hb109 => ?_
 ·replace G := ift hb109 G
  refine wp_skip ?_
  refine hK108 _ _ ?_
  refine wp_seq_k fun K110 hK110 => ?_
  refine wp_block_k fun Kx111 hKx111 => ?_
  refine ws fun K112 hK112 => ?_
  refine x_m J rfl fun U J => ?_
  refine x_m J rfl fun U J => ?_
  refine wn (hK112 _ _ ?_)
  refine ws fun K113 hK113 => ?_
  refine x_m J rfl fun U J => ?_
  refine x_m J rfl fun U J => ?_
  refine x_m J rfl fun U J => ?_
  obtain ⟨x114, h115, G⟩ := bnd G
  refine x_ia' uu119 sz25 (X.rdl 0 ha0 rfl) h115 J (fun U J => ?_) rfl
  obtain ⟨cs, hV, hc116⟩ := el (X.rdl 0 ha0 rfl) h115
  obtain rfl := hV
  refine x_ld' uu25 (hc116 0 _ rfl) J (fun U J => ?_) rfl
  refine x_v J (r_eqI rfl (J.ev rfl) (J.ev rfl)) rfl fun U J => ?_
  refine wn (hK113 _ _ ?_)
  refine c_if J rfl (fun hb117 => ?_) fun hb117 => ?_
  ·replace G := ift hb117 G
   refine ws fun K118 hK118 => ?_
   refine x_m J rfl fun U J => ?_
   refine x_m J rfl fun U J => ?_
   refine wn (hK118 _ _ ?_)
   refine wp_ret ?_
   cases G
   have ht := T105_ _ rfl
   subst ht
   replace G := hR105
   replace G : some x106 = some y := G
   cases G
   refine hQ _ _ ?_
   refine lv Tryd.results82 J rfl ?_
   exact ⟨rfl, X⟩
  replace G := iff' hb117 G
  refine wp_skip ?_
  refine hKx111 _ _ ?_
  refine hK110 _ _ ?_
  refine wp_reg ?_
  obtain ⟨x119, h120, G⟩ := ltt_ G
  refine x_v (v := .int .i64 x119) J (rv_i h120 (r_add rfl (J.ev rfl) (J.ev rfl))) rfl fun U J => ?_
  refine x_m J rfl fun U J => ?_
  refine wpList_nil ?_
  cases G
  exact ⟨_, N105_ _ rfl, J.sub _ rfl, X⟩
 replace G := iff' hb109 G
 refine wp_exit ?_
 cases G
 exact hx105_0 (T105_ _ rfl) U w (J.sub _ rfl) X
theorem F_slices_Contains_api_Errno_api_Errno {r : World} {L : List HP} {w : World} (a0 : (List Int)) (a1 : Int) (A0 : Option Addr) (n0 : Nat) (c0 : Nat) {y : (Bool)} (G : slices_Contains_api_Errno_api_Errno a0 a1 = some y) (ha0 : RdL L (kI .i64) A0 n0 c0 a0) (X : SH r (L) w) :
  Ret Tryd.prog 66 #[.slice A0 n0 c0, .int .i64 a1] w fun v w' => v = .bool y ∧ SH r (L) w' := by
 refine enter Tryd.func66 rfl Tryd.ntmps66 [(0, .slice A0 n0 c0), (1, .int .i64 a1)] rfl (by simp) ?_
 intro U J Qf hQ hQn
 unfold slices_Contains_api_Errno_api_Errno at G
 refine ws fun K100 hK100 => ?_
 refine x_m J rfl fun U J => ?_
 refine wn (hK100 _ _ ?_)
 refine ws fun K101 hK101 => ?_
 refine x_m J rfl fun U J => ?_
 refine x_m J rfl fun U J => ?_
 obtain ⟨y102, h103, G⟩ := bnd G
 refine x_call' en82 J (F_slices_Index_api_Errno_api_Errno (L := L) a0 a1 A0 n0 c0 h103 (RdL.sfx 0 rfl ha0) X) (fun v U w hR J => ?_) rfl
 obtain ⟨rfl, X⟩ := hR
 refine x_v J (r_geI rfl (J.ev rfl) (J.ev rfl)) rfl fun U J => ?_
 refine x_m J rfl fun U J => ?_
 refine wn (hK101 _ _ ?_)
 refine wp_ret ?_
 cases G
 refine hQ _ _ ?_
 refine lv Tryd.results66 J rfl ?_
 exact ⟨rfl, X⟩
theorem F_event_Form {r : World} {L : List HP} {w : World} (a0 : S44) (a1 : Int) {y : (Bool)} (G : event_Form a0 a1 = some y) (X : SH r (L) w) :
  Ret Tryd.prog 23 #[.agg #[.int .u64 a0.f0, .int .i64 a0.f1, .int .i64 a0.f2, str a0.f3, .float .f64 a0.f4], .int .i64 a1] w fun v w' => v = .bool y ∧ SH r (L) w' := by
 refine enter Tryd.func23 rfl Tryd.ntmps23 [(0, .agg #[.int .u64 a0.f0, .int .i64 a0.f1, .int .i64 a0.f2, str a0.f3, .float .f64 a0.f4]), (1, .int .i64 a1)] rfl (by simp) ?_
 intro U J Qf hQ hQn
 unfold event_Form at G
 refine ws fun K100 hK100 => ?_
 refine x_box' J X (fun g101 U w X J => ?_) rfl
 refine x_m J rfl fun U J => ?_
 refine wn (hK100 _ _ ?_)
 refine ws fun K102 hK102 => ?_
 refine x_fab' fa44_1 J (fun U J => ?_) rfl
 refine x_ld' uu3 (X.cell 0 rfl 1 _ rfl) J (fun U J => ?_) rfl
 refine x_v J (r_geI rfl (J.ev rfl) (J.ev rfl)) rfl fun U J => ?_
 refine x_m J rfl fun U J => ?_
 refine bcase (b := decide (0 ≤ a0.f1)) (fun hb103 => ?_) fun hb103 => ?_
 ·replace G := ift hb103 G
  refine x_on' hb103 J ?_ rfl
  refine x_fab' fa44_1 J (fun U J => ?_) rfl
  refine x_on' hb103 J ?_ rfl
  refine x_ld' uu3 (X.cell 0 rfl 1 _ rfl) J (fun U J => ?_) rfl
  refine x_on' hb103 J ?_ rfl
  refine x_m J rfl fun U J => ?_
  refine x_on' hb103 J ?_ rfl
  refine x_v J (r_ltI rfl (J.ev rfl) (J.ev rfl)) rfl fun U J => ?_
  refine x_pickt' hb103 J (fun U J => ?_) rfl
  refine x_m J rfl fun U J => ?_
  refine bcase (b := decide (a0.f1 < a1)) (fun hb104 => ?_) fun hb104 => ?_
  ·replace G := ift hb104 G
   refine x_on' hb104 J ?_ rfl
   refine x_fab' fa44_2 J (fun U J => ?_) rfl
   refine x_on' hb104 J ?_ rfl
   refine x_ld' uu2 (X.cell 0 rfl 2 _ rfl) J (fun U J => ?_) rfl
   refine x_on' hb104 J ?_ rfl
   refine x_v J (r_geI rfl (J.ev rfl) (J.ev rfl)) rfl fun U J => ?_
   refine x_pickt' hb104 J (fun U J => ?_) rfl
   refine x_m J rfl fun U J => ?_
   refine bcase (b := decide (-1099511627776 ≤ a0.f2)) (fun hb105 => ?_) fun hb105 => ?_
   ·replace G := ift hb105 G
    refine x_on' hb105 J ?_ rfl
    refine x_fab' fa44_2 J (fun U J => ?_) rfl
    refine x_on' hb105 J ?_ rfl
    refine x_ld' uu2 (X.cell 0 rfl 2 _ rfl) J (fun U J => ?_) rfl
    refine x_on' hb105 J ?_ rfl
    refine x_v J (r_leI rfl (J.ev rfl) (J.ev rfl)) rfl fun U J => ?_
    refine x_pickt' hb105 J (fun U J => ?_) rfl
    refine x_m J rfl fun U J => ?_
    refine bcase (b := decide (a0.f2 ≤ 1099511627776)) (fun hb106 => ?_) fun hb106 => ?_
    ·replace G := ift hb106 G
     refine x_on' hb106 J ?_ rfl
     refine x_fab' fa44_3 J (fun U J => ?_) rfl
     refine x_on' hb106 J ?_ rfl
     refine x_ld' uu9 (X.cell 0 rfl 3 _ rfl) J (fun U J => ?_) rfl
     refine x_on' hb106 J ?_ rfl
     refine x_v J (r_lenS uu9 rfl (J.ev rfl)) rfl fun U J => ?_
     refine x_on' hb106 J ?_ rfl
     refine x_v J (r_leI rfl (J.ev rfl) (J.ev rfl)) rfl fun U J => ?_
     refine x_pickt' hb106 J (fun U J => ?_) rfl
     refine x_m J rfl fun U J => ?_
     refine bcase (b := decide ((a0.f3.length : Int) ≤ 32)) (fun hb107 => ?_) fun hb107 => ?_
     ·replace G := ift hb107 G
      refine x_on' hb107 J ?_ rfl
      refine x_fab' fa44_0 J (fun U J => ?_) rfl
      refine x_on' hb107 J ?_ rfl
      refine x_ld' uu31 (X.cell 0 rfl 0 _ rfl) J (fun U J => ?_) rfl
      refine x_on' hb107 J ?_ rfl
      refine x_v J (r_ltI rfl (J.ev rfl) (J.ev rfl)) rfl fun U J => ?_
      refine x_pickt' hb107 J (fun U J => ?_) rfl
      refine x_m J rfl fun U J => ?_
      refine wn (hK102 _ _ ?_)
      refine wp_ret ?_
      replace X := X.drop 0
      cases G
      refine hQ _ _ ?_
      refine lv Tryd.results23 J rfl ?_
      exact ⟨rfl, X⟩
     replace G := iff' hb107 G
     refine xO 3 hb107 J rfl fun U J => ?_
     refine x_pickf' hb107 J (fun U J => ?_) rfl
     refine x_m J rfl fun U J => ?_
     refine wn (hK102 _ _ ?_)
     refine wp_ret ?_
     replace X := X.drop 0
     cases G
     refine hQ _ _ ?_
     refine lv Tryd.results23 J rfl ?_
     exact ⟨rfl, X⟩
    replace G := iff' hb106 G
    refine xO 4 hb106 J rfl fun U J => ?_
    refine x_pickf' hb106 J (fun U J => ?_) rfl
    refine x_m J rfl fun U J => ?_
    refine xO 3 rfl J rfl fun U J => ?_
    refine x_pickf' rfl J (fun U J => ?_) rfl
    refine x_m J rfl fun U J => ?_
    refine wn (hK102 _ _ ?_)
    refine wp_ret ?_
    replace X := X.drop 0
    cases G
    refine hQ _ _ ?_
    refine lv Tryd.results23 J rfl ?_
    exact ⟨rfl, X⟩
   replace G := iff' hb105 G
   refine xO 3 hb105 J rfl fun U J => ?_
   refine x_pickf' hb105 J (fun U J => ?_) rfl
   refine x_m J rfl fun U J => ?_
   refine xO 4 rfl J rfl fun U J => ?_
   refine x_pickf' rfl J (fun U J => ?_) rfl
   refine x_m J rfl fun U J => ?_
   refine xO 3 rfl J rfl fun U J => ?_
   refine x_pickf' rfl J (fun U J => ?_) rfl
   refine x_m J rfl fun U J => ?_
   refine wn (hK102 _ _ ?_)
   refine wp_ret ?_
   replace X := X.drop 0
   cases G
   refine hQ _ _ ?_
   refine lv Tryd.results23 J rfl ?_
   exact ⟨rfl, X⟩
  replace G := iff' hb104 G
  refine xO 3 hb104 J rfl fun U J => ?_
  refine x_pickf' hb104 J (fun U J => ?_) rfl
  refine x_m J rfl fun U J => ?_
  refine xO 3 rfl J rfl fun U J => ?_
  refine x_pickf' rfl J (fun U J => ?_) rfl
  refine x_m J rfl fun U J => ?_
  refine xO 4 rfl J rfl fun U J => ?_
  refine x_pickf' rfl J (fun U J => ?_) rfl
  refine x_m J rfl fun U J => ?_
  refine xO 3 rfl J rfl fun U J => ?_
  refine x_pickf' rfl J (fun U J => ?_) rfl
  refine x_m J rfl fun U J => ?_
  refine wn (hK102 _ _ ?_)
  refine wp_ret ?_
  replace X := X.drop 0
  cases G
  refine hQ _ _ ?_
  refine lv Tryd.results23 J rfl ?_
  exact ⟨rfl, X⟩
 replace G := iff' hb103 G
 refine xO 4 hb103 J rfl fun U J => ?_
 refine x_pickf' hb103 J (fun U J => ?_) rfl
 refine x_m J rfl fun U J => ?_
 refine xO 3 rfl J rfl fun U J => ?_
 refine x_pickf' rfl J (fun U J => ?_) rfl
 refine x_m J rfl fun U J => ?_
 refine xO 3 rfl J rfl fun U J => ?_
 refine x_pickf' rfl J (fun U J => ?_) rfl
 refine x_m J rfl fun U J => ?_
 refine xO 4 rfl J rfl fun U J => ?_
 refine x_pickf' rfl J (fun U J => ?_) rfl
 refine x_m J rfl fun U J => ?_
 refine xO 3 rfl J rfl fun U J => ?_
 refine x_pickf' rfl J (fun U J => ?_) rfl
 refine x_m J rfl fun U J => ?_
 refine wn (hK102 _ _ ?_)
 refine wp_ret ?_
 replace X := X.drop 0
 cases G
 refine hQ _ _ ?_
 refine lv Tryd.results23 J rfl ?_
 exact ⟨rfl, X⟩
theorem F_r06_Form {r : World} {L : List HP} {w : World} (a0 : S44) (a1 : Int) {y : (Bool)} (G : r06_Form a0 a1 = some y) (X : SH r (L) w) :
  Ret Tryd.prog 31 #[.agg #[.int .u64 a0.f0, .int .i64 a0.f1, .int .i64 a0.f2, str a0.f3, .float .f64 a0.f4], .int .i64 a1] w fun v w' => v = .bool y ∧ SH r (L) w' := by
 refine enter Tryd.func31 rfl Tryd.ntmps31 [(0, .agg #[.int .u64 a0.f0, .int .i64 a0.f1, .int .i64 a0.f2, str a0.f3, .float .f64 a0.f4]), (1, .int .i64 a1)] rfl (by simp) ?_
 intro U J Qf hQ hQn
 unfold r06_Form at G
 refine ws fun K100 hK100 => ?_
 refine x_box' J X (fun g101 U w X J => ?_) rfl
 refine x_m J rfl fun U J => ?_
 refine wn (hK100 _ _ ?_)
 refine ws fun K102 hK102 => ?_
 refine x_fab' fa44_1 J (fun U J => ?_) rfl
 refine x_ld' uu3 (X.cell 0 rfl 1 _ rfl) J (fun U J => ?_) rfl
 refine x_v J (r_geI rfl (J.ev rfl) (J.ev rfl)) rfl fun U J => ?_
 refine x_m J rfl fun U J => ?_
 refine bcase (b := decide (0 ≤ a0.f1)) (fun hb103 => ?_) fun hb103 => ?_
 ·replace G := ift hb103 G
  refine x_on' hb103 J ?_ rfl
  refine x_fab' fa44_1 J (fun U J => ?_) rfl
  refine x_on' hb103 J ?_ rfl
  refine x_ld' uu3 (X.cell 0 rfl 1 _ rfl) J (fun U J => ?_) rfl
  refine x_on' hb103 J ?_ rfl
  refine x_m J rfl fun U J => ?_
  refine x_on' hb103 J ?_ rfl
  refine x_v J (r_ltI rfl (J.ev rfl) (J.ev rfl)) rfl fun U J => ?_
  refine x_pickt' hb103 J (fun U J => ?_) rfl
  refine x_m J rfl fun U J => ?_
  refine bcase (b := decide (a0.f1 < a1)) (fun hb104 => ?_) fun hb104 => ?_
  ·replace G := ift hb104 G
   refine x_on' hb104 J ?_ rfl
   refine x_fab' fa44_2 J (fun U J => ?_) rfl
   refine x_on' hb104 J ?_ rfl
   refine x_ld' uu2 (X.cell 0 rfl 2 _ rfl) J (fun U J => ?_) rfl
   refine x_on' hb104 J ?_ rfl
   refine x_v J (r_geI rfl (J.ev rfl) (J.ev rfl)) rfl fun U J => ?_
   refine x_pickt' hb104 J (fun U J => ?_) rfl
   refine x_m J rfl fun U J => ?_
   refine bcase (b := decide (-1099511627776 ≤ a0.f2)) (fun hb105 => ?_) fun hb105 => ?_
   ·replace G := ift hb105 G
    refine x_on' hb105 J ?_ rfl
    refine x_fab' fa44_2 J (fun U J => ?_) rfl
    refine x_on' hb105 J ?_ rfl
    refine x_ld' uu2 (X.cell 0 rfl 2 _ rfl) J (fun U J => ?_) rfl
    refine x_on' hb105 J ?_ rfl
    refine x_v J (r_leI rfl (J.ev rfl) (J.ev rfl)) rfl fun U J => ?_
    refine x_pickt' hb105 J (fun U J => ?_) rfl
    refine x_m J rfl fun U J => ?_
    refine bcase (b := decide (a0.f2 ≤ 1099511627776)) (fun hb106 => ?_) fun hb106 => ?_
    ·replace G := ift hb106 G
     refine x_on' hb106 J ?_ rfl
     refine x_fab' fa44_3 J (fun U J => ?_) rfl
     refine x_on' hb106 J ?_ rfl
     refine x_ld' uu9 (X.cell 0 rfl 3 _ rfl) J (fun U J => ?_) rfl
     refine x_on' hb106 J ?_ rfl
     refine x_v J (r_lenS uu9 rfl (J.ev rfl)) rfl fun U J => ?_
     refine x_on' hb106 J ?_ rfl
     refine x_v J (r_leI rfl (J.ev rfl) (J.ev rfl)) rfl fun U J => ?_
     refine x_pickt' hb106 J (fun U J => ?_) rfl
     refine x_m J rfl fun U J => ?_
     refine bcase (b := decide ((a0.f3.length : Int) ≤ 32)) (fun hb107 => ?_) fun hb107 => ?_
     ·replace G := ift hb107 G
      refine x_on' hb107 J ?_ rfl
      refine x_fab' fa44_0 J (fun U J => ?_) rfl
      refine x_on' hb107 J ?_ rfl
      refine x_ld' uu31 (X.cell 0 rfl 0 _ rfl) J (fun U J => ?_) rfl
      refine x_on' hb107 J ?_ rfl
      refine x_v J (r_ltI rfl (J.ev rfl) (J.ev rfl)) rfl fun U J => ?_
      refine x_pickt' hb107 J (fun U J => ?_) rfl
      refine x_m J rfl fun U J => ?_
      refine wn (hK102 _ _ ?_)
      refine wp_ret ?_
      replace X := X.drop 0
      cases G
      refine hQ _ _ ?_
      refine lv Tryd.results31 J rfl ?_
      exact ⟨rfl, X⟩
     replace G := iff' hb107 G
     refine xO 3 hb107 J rfl fun U J => ?_
     refine x_pickf' hb107 J (fun U J => ?_) rfl
     refine x_m J rfl fun U J => ?_
     refine wn (hK102 _ _ ?_)
     refine wp_ret ?_
     replace X := X.drop 0
     cases G
     refine hQ _ _ ?_
     refine lv Tryd.results31 J rfl ?_
     exact ⟨rfl, X⟩
    replace G := iff' hb106 G
    refine xO 4 hb106 J rfl fun U J => ?_
    refine x_pickf' hb106 J (fun U J => ?_) rfl
    refine x_m J rfl fun U J => ?_
    refine xO 3 rfl J rfl fun U J => ?_
    refine x_pickf' rfl J (fun U J => ?_) rfl
    refine x_m J rfl fun U J => ?_
    refine wn (hK102 _ _ ?_)
    refine wp_ret ?_
    replace X := X.drop 0
    cases G
    refine hQ _ _ ?_
    refine lv Tryd.results31 J rfl ?_
    exact ⟨rfl, X⟩
   replace G := iff' hb105 G
   refine xO 3 hb105 J rfl fun U J => ?_
   refine x_pickf' hb105 J (fun U J => ?_) rfl
   refine x_m J rfl fun U J => ?_
   refine xO 4 rfl J rfl fun U J => ?_
   refine x_pickf' rfl J (fun U J => ?_) rfl
   refine x_m J rfl fun U J => ?_
   refine xO 3 rfl J rfl fun U J => ?_
   refine x_pickf' rfl J (fun U J => ?_) rfl
   refine x_m J rfl fun U J => ?_
   refine wn (hK102 _ _ ?_)
   refine wp_ret ?_
   replace X := X.drop 0
   cases G
   refine hQ _ _ ?_
   refine lv Tryd.results31 J rfl ?_
   exact ⟨rfl, X⟩
  replace G := iff' hb104 G
  refine xO 3 hb104 J rfl fun U J => ?_
  refine x_pickf' hb104 J (fun U J => ?_) rfl
  refine x_m J rfl fun U J => ?_
  refine xO 3 rfl J rfl fun U J => ?_
  refine x_pickf' rfl J (fun U J => ?_) rfl
  refine x_m J rfl fun U J => ?_
  refine xO 4 rfl J rfl fun U J => ?_
  refine x_pickf' rfl J (fun U J => ?_) rfl
  refine x_m J rfl fun U J => ?_
  refine xO 3 rfl J rfl fun U J => ?_
  refine x_pickf' rfl J (fun U J => ?_) rfl
  refine x_m J rfl fun U J => ?_
  refine wn (hK102 _ _ ?_)
  refine wp_ret ?_
  replace X := X.drop 0
  cases G
  refine hQ _ _ ?_
  refine lv Tryd.results31 J rfl ?_
  exact ⟨rfl, X⟩
 replace G := iff' hb103 G
 refine xO 4 hb103 J rfl fun U J => ?_
 refine x_pickf' hb103 J (fun U J => ?_) rfl
 refine x_m J rfl fun U J => ?_
 refine xO 3 rfl J rfl fun U J => ?_
 refine x_pickf' rfl J (fun U J => ?_) rfl
 refine x_m J rfl fun U J => ?_
 refine xO 3 rfl J rfl fun U J => ?_
 refine x_pickf' rfl J (fun U J => ?_) rfl
 refine x_m J rfl fun U J => ?_
 refine xO 4 rfl J rfl fun U J => ?_
 refine x_pickf' rfl J (fun U J => ?_) rfl
 refine x_m J rfl fun U J => ?_
 refine xO 3 rfl J rfl fun U J => ?_
 refine x_pickf' rfl J (fun U J => ?_) rfl
 refine x_m J rfl fun U J => ?_
 refine wn (hK102 _ _ ?_)
 refine wp_ret ?_
 replace X := X.drop 0
 cases G
 refine hQ _ _ ?_
 refine lv Tryd.results31 J rfl ?_
 exact ⟨rfl, X⟩
theorem F_r06_Same {r : World} {L : List HP} {w : World} (a0 : S44) (a1 : S44) {y : (Bool)} (G : r06_Same a0 a1 = some y) (X : SH r (L) w) :
  Ret Tryd.prog 43 #[.agg #[.int .u64 a0.f0, .int .i64 a0.f1, .int .i64 a0.f2, str a0.f3, .float .f64 a0.f4], .agg #[.int .u64 a1.f0, .int .i64 a1.f1, .int .i64 a1.f2, str a1.f3, .float .f64 a1.f4]] w fun v w' => v = .bool y ∧ SH r (L) w' := by
 refine enter Tryd.func43 rfl Tryd.ntmps43 [(0, .agg #[.int .u64 a0.f0, .int .i64 a0.f1, .int .i64 a0.f2, str a0.f3, .float .f64 a0.f4]), (1, .agg #[.int .u64 a1.f0, .int .i64 a1.f1, .int .i64 a1.f2, str a1.f3, .float .f64 a1.f4])] rfl (by simp) ?_
 intro U J Qf hQ hQn
 unfold r06_Same at G
 refine ws fun K100 hK100 => ?_
 refine x_box' J X (fun g101 U w X J => ?_) rfl
 refine x_box' J X (fun g102 U w X J => ?_) rfl
 refine x_m J rfl fun U J => ?_
 refine wn (hK100 _ _ ?_)
 refine ws fun K103 hK103 => ?_
 refine x_fab' fa44_0 J (fun U J => ?_) rfl
 refine x_ld' uu31 (X.cell 1 rfl 0 _ rfl) J (fun U J => ?_) rfl
 refine x_fab' fa44_0 J (fun U J => ?_) rfl
 refine x_ld' uu31 (X.cell 0 rfl 0 _ rfl) J (fun U J => ?_) rfl
 refine x_v J (r_eqI rfl (J.ev rfl) (J.ev rfl)) rfl fun U J => ?_
 refine x_m J rfl fun U J => ?_
 refine bcase (b := a0.f0 == a1.f0) (fun hb104 => ?_) fun hb104 => ?_
 ·replace G := ift hb104 G
  refine x_on' hb104 J ?_ rfl
  refine x_fab' fa44_1 J (fun U J => ?_) rfl
  refine x_on' hb104 J ?_ rfl
  refine x_ld' uu3 (X.cell 1 rfl 1 _ rfl) J (fun U J => ?_) rfl
  refine x_on' hb104 J ?_ rfl
  refine x_fab' fa44_1 J (fun U J => ?_) rfl
  refine x_on' hb104 J ?_ rfl
  refine x_ld' uu3 (X.cell 0 rfl 1 _ rfl) J (fun U J => ?_) rfl
  refine x_on' hb104 J ?_ rfl
  refine x_v J (r_eqI rfl (J.ev rfl) (J.ev rfl)) rfl fun U J => ?_
  refine x_pickt' hb104 J (fun U J => ?_) rfl
  refine x_m J rfl fun U J => ?_
  refine bcase (b := a0.f1 == a1.f1) (fun hb105 => ?_) fun hb105 => ?_
  ·replace G := ift hb105 G
   refine x_on' hb105 J ?_ rfl
   refine x_fab' fa44_2 J (fun U J => ?_) rfl
   refine x_on' hb105 J ?_ rfl
   refine x_ld' uu2 (X.cell 1 rfl 2 _ rfl) J (fun U J => ?_) rfl
   refine x_on' hb105 J ?_ rfl
   refine x_fab' fa44_2 J (fun U J => ?_) rfl
   refine x_on' hb105 J ?_ rfl
   refine x_ld' uu2 (X.cell 0 rfl 2 _ rfl) J (fun U J => ?_) rfl
   refine x_on' hb105 J ?_ rfl
   refine x_v J (r_eqI rfl (J.ev rfl) (J.ev rfl)) rfl fun U J => ?_
   refine x_pickt' hb105 J (fun U J => ?_) rfl
   refine x_m J rfl fun U J => ?_
   refine bcase (b := a0.f2 == a1.f2) (fun hb106 => ?_) fun hb106 => ?_
   ·replace G := ift hb106 G
    refine x_on' hb106 J ?_ rfl
    refine x_fab' fa44_3 J (fun U J => ?_) rfl
    refine x_on' hb106 J ?_ rfl
    refine x_ld' uu9 (X.cell 1 rfl 3 _ rfl) J (fun U J => ?_) rfl
    refine x_on' hb106 J ?_ rfl
    refine x_fab' fa44_3 J (fun U J => ?_) rfl
    refine x_on' hb106 J ?_ rfl
    refine x_ld' uu9 (X.cell 0 rfl 3 _ rfl) J (fun U J => ?_) rfl
    refine x_on' hb106 J ?_ rfl
    refine x_v J (r_eqS rfl (J.ev rfl) (J.ev rfl)) rfl fun U J => ?_
    refine x_pickt' hb106 J (fun U J => ?_) rfl
    refine x_m J rfl fun U J => ?_
    refine bcase (b := a0.f3 == a1.f3) (fun hb107 => ?_) fun hb107 => ?_
    ·replace G := ift hb107 G
     refine x_on' hb107 J ?_ rfl
     refine x_fab' fa44_4 J (fun U J => ?_) rfl
     refine x_on' hb107 J ?_ rfl
     refine x_ld' uu42 (X.cell 1 rfl 4 _ rfl) J (fun U J => ?_) rfl
     refine x_on' hb107 J ?_ rfl
     refine x_fab' fa44_4 J (fun U J => ?_) rfl
     refine x_on' hb107 J ?_ rfl
     refine x_ld' uu42 (X.cell 0 rfl 4 _ rfl) J (fun U J => ?_) rfl
     refine x_on' hb107 J ?_ rfl
     obtain ⟨y108, h109, G⟩ := bnd G
     refine x_call' en67 J (F_r01_Same (L := blk g102 44 [.int .u64 a1.f0, .int .i64 a1.f1, .int .i64 a1.f2, str a1.f3, .float .f64 a1.f4] :: blk g101 44 [.int .u64 a0.f0, .int .i64 a0.f1, .int .i64 a0.f2, str a0.f3, .float .f64 a0.f4] :: L) a0.f4 a1.f4 h109 X) (fun v U w hR J => ?_) rfl
     obtain ⟨rfl, X⟩ := hR
     refine x_pickt' hb107 J (fun U J => ?_) rfl
     refine x_m J rfl fun U J => ?_
     refine wn (hK103 _ _ ?_)
     refine wp_ret ?_
     replace X := X.drop 0 |>.drop 0
     cases G
     refine hQ _ _ ?_
     refine lv Tryd.results43 J rfl ?_
     exact ⟨rfl, X⟩
    replace G := iff' hb107 G
    refine xO 5 hb107 J rfl fun U J => ?_
    refine x_pickf' hb107 J (fun U J => ?_) rfl
    refine x_m J rfl fun U J => ?_
    refine wn (hK103 _ _ ?_)
    refine wp_ret ?_
    replace X := X.drop 0 |>.drop 0
    cases G
    refine hQ _ _ ?_
    refine lv Tryd.results43 J rfl ?_
    exact ⟨rfl, X⟩
   replace G := iff' hb106 G
   refine xO 5 hb106 J rfl fun U J => ?_
   refine x_pickf' hb106 J (fun U J => ?_) rfl
   refine x_m J rfl fun U J => ?_
   refine xO 5 rfl J rfl fun U J => ?_
   refine x_pickf' rfl J (fun U J => ?_) rfl
   refine x_m J rfl fun U J => ?_
   refine wn (hK103 _ _ ?_)
   refine wp_ret ?_
   replace X := X.drop 0 |>.drop 0
   cases G
   refine hQ _ _ ?_
   refine lv Tryd.results43 J rfl ?_
   exact ⟨rfl, X⟩
  replace G := iff' hb105 G
  refine xO 5 hb105 J rfl fun U J => ?_
  refine x_pickf' hb105 J (fun U J => ?_) rfl
  refine x_m J rfl fun U J => ?_
  refine xO 5 rfl J rfl fun U J => ?_
  refine x_pickf' rfl J (fun U J => ?_) rfl
  refine x_m J rfl fun U J => ?_
  refine xO 5 rfl J rfl fun U J => ?_
  refine x_pickf' rfl J (fun U J => ?_) rfl
  refine x_m J rfl fun U J => ?_
  refine wn (hK103 _ _ ?_)
  refine wp_ret ?_
  replace X := X.drop 0 |>.drop 0
  cases G
  refine hQ _ _ ?_
  refine lv Tryd.results43 J rfl ?_
  exact ⟨rfl, X⟩
 replace G := iff' hb104 G
 refine xO 5 hb104 J rfl fun U J => ?_
 refine x_pickf' hb104 J (fun U J => ?_) rfl
 refine x_m J rfl fun U J => ?_
 refine xO 5 rfl J rfl fun U J => ?_
 refine x_pickf' rfl J (fun U J => ?_) rfl
 refine x_m J rfl fun U J => ?_
 refine xO 5 rfl J rfl fun U J => ?_
 refine x_pickf' rfl J (fun U J => ?_) rfl
 refine x_m J rfl fun U J => ?_
 refine xO 5 rfl J rfl fun U J => ?_
 refine x_pickf' rfl J (fun U J => ?_) rfl
 refine x_m J rfl fun U J => ?_
 refine wn (hK103 _ _ ?_)
 refine wp_ret ?_
 replace X := X.drop 0 |>.drop 0
 cases G
 refine hQ _ _ ?_
 refine lv Tryd.results43 J rfl ?_
 exact ⟨rfl, X⟩
theorem F_r06_SameAll {r : World} {L : List HP} {w : World} (a0 : (List S44)) (a1 : (List S44)) (A0 : Option Addr) (n0 : Nat) (c0 : Nat) (A1 : Option Addr) (n1 : Nat) (c1 : Nat) {y : (Bool)} (G : r06_SameAll a0 a1 = some y) (ha0 : RdL L k44 A0 n0 c0 a0) (ha1 : RdL L k44 A1 n1 c1 a1) (X : SH r (L) w) :
  Ret Tryd.prog 19 #[.slice A0 n0 c0, .slice A1 n1 c1] w fun v w' => v = .bool y ∧ SH r (L) w' := by
 refine enter Tryd.func19 rfl Tryd.ntmps19 [(0, .slice A0 n0 c0), (1, .slice A1 n1 c1)] rfl (by simp) ?_
 intro U J Qf hQ hQn
 unfold r06_SameAll at G
 refine ws fun K100 hK100 => ?_
 refine x_m J rfl fun U J => ?_
 refine wn (hK100 _ _ ?_)
 refine wp_seq_k fun K101 hK101 => ?_
 refine ws fun K102 hK102 => ?_
 refine x_m J rfl fun U J => ?_
 refine x_len' uu22 (X.rdl 0 ha0 rfl).2.1 J (fun U J => ?_) rfl
 refine x_m J rfl fun U J => ?_
 refine x_len' uu22 (X.rdl 0 ha1 rfl).2.1 J (fun U J => ?_) rfl
 refine x_v J (r_neI rfl (J.ev rfl) (J.ev rfl)) rfl fun U J => ?_
 refine wn (hK102 _ _ ?_)
 refine c_if J rfl (fun hb103 => ?_) fun hb103 => ?_
 ·replace G := ift hb103 G
  refine ws fun K104 hK104 => ?_
  refine x_m J rfl fun U J => ?_
  refine wn (hK104 _ _ ?_)
  refine wp_ret ?_
  cases G
  refine hQ _ _ ?_
  refine lv Tryd.results19 J rfl ?_
  exact ⟨rfl, X⟩
 replace G := iff' hb103 G
 refine wp_skip ?_
 refine hK101 _ _ ?_
 refine wp_seq_k fun K105 hK105 => ?_
 refine ws fun K106 hK106 => ?_
 refine x_m J rfl fun U J => ?_
 refine wn (hK106 _ _ ?_)
 refine wp_block_k fun Kx107 hKx107 => ?_
 have hb1 : r06_SameAll_b1 = some y → ∀ (U : Act) (w : World), FR 27 [] U [] → SH r (L) w → Kx107 U w := by
  intro G U w J X
  unfold r06_SameAll_b1 at G
  refine hKx107 _ _ ?_
  refine hK105 _ _ ?_
  refine ws fun K108 hK108 => ?_
  refine x_m J rfl fun U J => ?_
  refine wn (hK108 _ _ ?_)
  refine wp_ret ?_
  cases G
  refine hQ _ _ ?_
  refine lv Tryd.results19 J rfl ?_
  exact ⟨rfl, X⟩
 obtain ⟨t109, hl109, G⟩ := bnd G
 have hR109 := G
 have hx109_0 : (.inl ()) = t109 → ∀ (U : Act) (w : World), FR 27 [] U [] → SH r (L) w → Kx107 U w := by
  intro ht U w J X
  subst ht
  replace G : r06_SameAll_x1_0 = some y := G
  unfold r06_SameAll_x1_0 at G
  exact hb1 G U w (J.sub _ rfl) X
 refine wp_loop_fn hl109 (fun s U w => FR 27 [] U [(0, .slice A0 n0 c0), (1, .slice A1 n1 c1), (5, .int .i64 s)] ∧ SH r (L) w) ⟨J.sub _ rfl, X⟩ ?_
 intro N109 s109 o109 G N109_ T109_ U w hLab
 obtain ⟨x110, rfl⟩ : ∃ q, q = s109 := ⟨_, rfl⟩
 replace G : r06_SameAll_l1 a0 a1 x110 = some o109 := G
 unfold r06_SameAll_l1 at G
 try dsimp only at hLab
 obtain ⟨J, X⟩ := hLab
 refine wp_seq_k fun K111 hK111 => ?_
 refine ws fun K112 hK112 => ?_
 refine x_m J rfl fun U J => ?_
 refine x_m J rfl fun U J => ?_
 refine x_len' uu22 (X.rdl 0 ha0 rfl).2.1 J (fun U J => ?_) rfl
 refine x_v J (r_ltI rfl (J.ev rfl) (J.ev rfl)) rfl fun U J => ?_
 refine wn (hK112 _ _ ?_)
 refine c_if J rfl (fun hb113 => ?_) fun hb113 => ?_
 ·replace G := ift hb113 G
  refine wp_skip ?_
  refine hK111 _ _ ?_
  refine wp_seq_k fun K114 hK114 => ?_
  refine wp_block_k fun Kx115 hKx115 => ?_
  refine wp_seq_k fun K116 hK116 => ?_
  refine wp_draw [0, 0, 3, 7, 0, 0, 48, 112, 255, 511] [8] rfl J X (by kernel_rfl) (by kernel_rfl) (by kernel_rfl) (by kernel_rfl) fun w X => ?_
  obtain ⟨x117, h118, G⟩ := bnd G
  obtain ⟨cs, hV, hc119⟩ := el (X.rdl 0 ha0 rfl) h118
  obtain rfl := hV
  obtain ⟨x120, h121, G⟩ := bnd G
  obtain ⟨cs, hV, hc122⟩ := el (X.rdl 0 ha1 rfl) h121
  obtain rfl := hV
  refine ⟨[(0, .slice A0 n0 c0), (1, .int .i64 x110), (2, .pointer (some (ea A0 (x110.toNat * 5)))), (3, .agg #[.int .u64 x117.f0, .int .i64 x117.f1, .int .i64 x117.f2, str x117.f3, .float .f64 x117.f4]), (4, .slice A1 n1 c1), (5, .int .i64 x110), (6, .pointer (some (ea A1 (x110.toNat * 5)))), (7, .agg #[.int .u64 x120.f0, .int .i64 x120.f1, .int .i64 x120.f2, str x120.f3, .float .f64 x120.f4])], ?_⟩
  refine dF [0, 1, 2, 3, 4, 5, 6, 7] [8] (by kernel_rfl) ⟨pm rfl, pm rfl, pt [(17, .slice A0 n0 c0), (18, .int .i64 x110)] rfl (fun U J => y_ia uu22 sz44 (X.rdl 0 ha0 rfl) h118 J rfl rfl rfl), pt [(19, .pointer (some (ea A0 (x110.toNat * 5))))] rfl (fun U J => y_lda (cs := [.int .u64 x117.f0, .int .i64 x117.f1, .int .i64 x117.f2, str x117.f3, .float .f64 x117.f4]) uu44 sz44 (fun j u h => by rw [ea_add]; exact hc119 _ _ h) J rfl rfl rfl), pm rfl, pm rfl, pt [(21, .slice A1 n1 c1), (22, .int .i64 x110)] rfl (fun U J => y_ia uu22 sz44 (X.rdl 0 ha1 rfl) h121 J rfl rfl rfl), pt [(23, .pointer (some (ea A1 (x110.toNat * 5))))] rfl (fun U J => y_lda (cs := [.int .u64 x120.f0, .int .i64 x120.f1, .int .i64 x120.f2, str x120.f3, .float .f64 x120.f4]) uu44 sz44 (fun j u h => by rw [ea_add]; exact hc122 _ _ h) J rfl rfl rfl), trivial⟩ ⟨et [(20, .agg #[.int .u64 x117.f0, .int .i64 x117.f1, .int .i64 x117.f2, str x117.f3, .float .f64 x117.f4]), (24, .agg #[.int .u64 x120.f0, .int .i64 x120.f1, .int .i64 x120.f2, str x120.f3, .float .f64 x120.f4])] rfl (fun U J K hK => ?_), trivial⟩
  obtain ⟨y123, h124, G⟩ := bnd G
  refine z_call' en43 J (F_r06_Same (L := L) x117 x120 h124 X) (fun v w hR => ?_) rfl
  obtain ⟨rfl, X⟩ := hR
  refine hK _ [(9, .bool (!y123))] _ rfl ?_
  refine dEnd [9] (by kernel_rfl) ⟨pt [(25, .bool y123)] rfl (fun U J => r_not rfl (J.ev rfl)), trivial⟩ ⟨by kernel_rfl, by kernel_rfl⟩ [(0, .slice A0 n0 c0), (1, .slice A1 n1 c1), (5, .int .i64 x110), (26, .bool (!y123))] rfl (fun U J => ?_)
  refine hK116 _ _ ?_
  refine c_if J rfl (fun hb125 => ?_) fun hb125 => ?_
  ·replace G := ift hb125 G
   refine ws fun K126 hK126 => ?_
   refine x_m J rfl fun U J => ?_
   refine wn (hK126 _ _ ?_)
   refine wp_ret ?_
   cases G
   have ht := T109_ _ rfl
   subst ht
   replace G := hR109
   replace G : some false = some y := G
   cases G
   refine hQ _ _ ?_
   refine lv Tryd.results19 J rfl ?_
   exact ⟨rfl, X⟩
  replace G := iff' hb125 G
  refine wp_skip ?_
  refine hKx115 _ _ ?_
  refine hK114 _ _ ?_
  refine wp_reg ?_
  refine x_m J rfl fun U J => ?_
  refine x_v J (r_add rfl (J.ev rfl) (J.ev rfl)) rfl fun U J => ?_
  refine x_m J rfl fun U J => ?_
  refine wpList_nil ?_
  cases G
  exact ⟨_, N109_ _ rfl, J.sub _ rfl, X⟩
 replace G := iff' hb113 G
 refine wp_exit ?_
 cases G
 exact hx109_0 (T109_ _ rfl) U w (J.sub _ rfl) X
theorem F_event_Read_1 {r : World} {L : List HP} {w : World} {Z : Nat → Prop} {wz : World} (a0 : S106) (a1 : (List (List Int))) (g0 : Nat) (g1 : Nat) {y : ((S106 × (List (List Int))) ⊕ (S106 × (List (List Int))))} (G : event_Read_1 a0 a1 = some y) (X : SH r (obj106 Z wz g0 a0 :: own (kM Z wz (kI .u8)) 111 (some ⟨g1, 0, none⟩) 5 5 a1 :: zone Z wz :: L) w) :
  RetS Tryd.prog 62 #[.pointer (some ⟨g0, 0, none⟩), (pP g1)] w badC y (fun y v w' => ∃ (Z' : Nat → Prop) (wz' : World), v = .tuple #[] ∧ Sub Z wz Z' wz' ∧ SH r (obj106 Z' wz' g0 y.1 :: own (kM Z' wz' (kI .u8)) 111 (some ⟨g1, 0, none⟩) 5 5 y.2 :: zone Z' wz' :: L) w') (fun y w' => ∃ (Z' : Nat → Prop) (wz' : World), Sub Z wz Z' wz' ∧ SH r (obj106 Z' wz' g0 y.1 :: own (kM Z' wz' (kI .u8)) 111 (some ⟨g1, 0, none⟩) 5 5 y.2 :: zone Z' wz' :: L) w') := by
 refine enterS Tryd.func62 rfl Tryd.ntmps62 [(0, (pP g0)), (1, (pP g1))] rfl (by simp) ?_
 intro U J Qf hQ hQn hQp
 unfold event_Read_1 at G
 obtain ⟨A100, n101, c102, X⟩ := obj106_open X
 obtain ⟨h103, X⟩ := (X.pk 1).unpure
 refine ws fun K104 hK104 => ?_
 refine x_m J rfl fun U J => ?_
 refine wn (hK104 _ _ ?_)
 refine wp_block_k fun Kx105 hKx105 => ?_
 have hb1 : ∀ (l106 : (List Int)) (l107 : (List (List Int))), event_Read_1_b1 l106 l107 = some y → ∀ (Z108 : Nat → Prop) (wz109 : World) (A110 : Option Addr) (n111 : Nat) (c112 : Nat) (h113 : Sub Z wz Z108 wz109) (h114 : Imm Z108 wz109 (kI .u8) A110 n111 c112 l106) (U : Act) (w : World), FR 13 [] U [(0, (pP g0)), (1, (pP g1))] → SH r (blk g0 106 [.slice A110 n111 c112] :: own (kM Z108 wz109 (kI .u8)) 111 (some ⟨g1, 0, none⟩) 5 5 l107 :: zone Z108 wz109 :: L) w → Kx105 U w := by
  intro l106 l107 G Z108 wz109 A110 n111 c112 h113 h114 U w J X
  unfold event_Read_1_b1 at G
  refine hKx105 _ _ ?_
  replace X := SH.pure_ h114 X
  replace X := X.pk 1
  replace X := obj106_mk (x := (⟨l106⟩ : S106)) X
  replace X := X.pk 2 |>.pk 2 |>.pk 2
  cases G
  refine hQn _ rfl _ _ ?_
  refine lv0n Tryd.results62 J ?_
  exact ⟨Z108, wz109, rfl, h113, X⟩
 obtain ⟨t115, hl115, G⟩ := bnd G
 have hR115 := G
 have hx115_0 : ∀ (l116 : (List Int)) (l115 : (List (List Int))), (.inl (l116, l115)) = t115 → ∀ (Z117 : Nat → Prop) (wz118 : World) (A119 : Option Addr) (n120 : Nat) (c121 : Nat) (h122 : Sub Z wz Z117 wz118) (h123 : Imm Z117 wz118 (kI .u8) A119 n120 c121 l116) (U : Act) (w : World), FR 13 [] U [(0, (pP g0)), (1, (pP g1))] → SH r (blk g0 106 [.slice A119 n120 c121] :: own (kM Z117 wz118 (kI .u8)) 111 (some ⟨g1, 0, none⟩) 5 5 l115 :: zone Z117 wz118 :: L) w → Kx105 U w := by
  intro l116 l115 ht Z117 wz118 A119 n120 c121 h122 h123 U w J X
  subst ht
  replace G : event_Read_1_x1_0 l116 l115 = some y := G
  unfold event_Read_1_x1_0 at G
  exact hb1 l116 l115 G Z117 wz118 A119 n120 c121 h122 h123 U w (J.sub _ rfl) X
 refine wp_loop_fn hl115 (fun s U w => ∃ (Z124 : Nat → Prop) (wz125 : World) (A126 : Option Addr) (n127 : Nat) (c128 : Nat), Sub Z wz Z124 wz125 ∧ Imm Z124 wz125 (kI .u8) A126 n127 c128 s.1 ∧ FR 13 [] U [(0, (pP g0)), (1, (pP g1)), (4, .int .i64 s.2.2)] ∧ SH r (blk g0 106 [.slice A126 n127 c128] :: own (kM Z124 wz125 (kI .u8)) 111 (some ⟨g1, 0, none⟩) 5 5 s.2.1 :: zone Z124 wz125 :: L) w) ⟨Z, wz, A100, n101, c102, (Sub.refl _ _), h103, J.sub _ rfl, X⟩ ?_
 intro N115 s115 o115 G N115_ T115_ U w hLab
 obtain ⟨l129, l130, x131⟩ := s115
 replace G : event_Read_1_l1 l129 l130 x131 = some o115 := G
 unfold event_Read_1_l1 at G
 try dsimp only at hLab
 obtain ⟨Z124, wz125, A126, n127, c128, h132, h133, J, X⟩ := hLab
 refine ws fun K134 hK134 => ?_
 refine x_v J (r_ltI rfl (J.ev rfl) (J.ev rfl)) rfl fun U J => ?_
 refine wn (hK134 _ _ ?_)
 refine wp_seq_k fun K135 hK135 => ?_
 refine c_if J rfl (fun hb136 => ?_) fun hb136 => ?_
 ·replace G := ift hb136 G
  refine wp_skip ?_
  refine hK135 _ _ ?_
  refine wp_seq_k fun K137 hK137 => ?_
  refine wp_block_k fun Kx138 hKx138 => ?_
  refine ws fun K139 hK139 => ?_
  refine x_m J rfl fun U J => ?_
  refine x_m J rfl fun U J => ?_
  refine wn (hK139 _ _ ?_)
  refine wp_reg ?_
  refine x_m J rfl fun U J => ?_
  refine x_m J rfl fun U J => ?_
  replace X := SH.pure_ h133 X
  replace X := X.pk 1
  replace X := obj106_mk (x := (⟨l129⟩ : S106)) X
  obtain ⟨y140, h141, G⟩ := bnd G
  rcases y140 with y140 | y140
  rotate_left
  ·replace G := sum_r G
   refine x_callp' (vs := #[.pointer (some ⟨g0, 0, none⟩), .int .i64 1048576]) en61 J (RetS.rf (F_column_Reader_Text (L := own (kM Z124 wz125 (kI .u8)) 111 (some ⟨g1, 0, none⟩) 5 5 l130 :: zone Z124 wz125 :: L) (⟨l129⟩ : S106) 1048576 g0 h141 1 rfl X)) (fun w hR => ?_) rfl
   replace X := hR
   obtain ⟨A142, n143, c144, X⟩ := obj106_open X
   obtain ⟨h145, X⟩ := (X.pk 1).unpure
   replace X := SH.pure_ h145 X
   replace X := X.pk 1
   replace X := obj106_mk (x := y140) X
   replace X := X.pk 2 |>.pk 2 |>.pk 2
   cases G
   have ht := T115_ _ rfl
   subst ht
   replace G := hR115
   replace G : some (.inr (y140, l130)) = some y := G
   cases G
   exact hQp _ rfl _ _ J.defers ⟨Z124, wz125, h132, X⟩
  replace G := sum_l G
  refine x_callw' (vs := #[.pointer (some ⟨g0, 0, none⟩), .int .i64 1048576]) en61 J (RetS.lf (F_column_Reader_Text (L := own (kM Z124 wz125 (kI .u8)) 111 (some ⟨g1, 0, none⟩) 5 5 l130 :: zone Z124 wz125 :: L) (⟨l129⟩ : S106) 1048576 g0 h141 1 rfl X)) (fun v U w hR J => ?_) rfl
  obtain ⟨rfl, X⟩ := hR
  obtain ⟨A146, n147, c148, X⟩ := obj106_open X
  obtain ⟨h149, X⟩ := (X.pk 1).unpure
  obtain ⟨h150, G⟩ := chk_some G
  refine x_s2b' (e := 5) uu24 uu5 uu9 J X h150 (fun A151 n152 c153 U w X J => ?_) rfl
  obtain ⟨x154, h155, G⟩ := bnd G
  refine x_iaA' uu111 sz24 (X.rd 2 rfl) h155 J (fun U J => ?_) rfl
  replace X := X.pk 3 |>.pk 1
  obtain ⟨Z156, wz157, X, h158, sb366⟩ := SH.freezem (m := n152) (c := c153) (A := A151) X
  have h159 := Imm.sub h149 sb366
  replace X := X.pk 2
  replace X := X.kind (d' := (kM Z156 wz157 (kI .u8))) rfl (kM_sub sb366)
  refine x_sto (z' := stb y140.1) (off := 0) (vs := [.slice A151 n152 c153]) 0 sz24 J X rfl (at_some h155).2.2 (fun c h => by obtain ⟨_, _, _, rfl, _⟩ := h; exact ⟨_, _, _, rfl, h158⟩) (fun  U w X J => ?_) rfl rfl rfl rfl rfl rfl rfl rfl
  refine wpList_nil ?_
  refine hKx138 _ _ ?_
  refine hK137 _ _ ?_
  refine wp_reg ?_
  obtain ⟨x160, h161, G⟩ := ltt_ G
  refine x_v (v := .int .i64 x160) J (rv_i h161 (r_add rfl (J.ev rfl) (J.ev rfl))) rfl fun U J => ?_
  refine x_m J rfl fun U J => ?_
  refine wpList_nil ?_
  replace X := X.pk 1 |>.pk 1 |>.pk 2
  cases G
  exact ⟨_, N115_ _ rfl, Z156, wz157, A146, n147, c148, (Sub.trans h132 sb366), h159, J.sub _ rfl, X⟩
 replace G := iff' hb136 G
 refine wp_exit ?_
 cases G
 exact hx115_0 l129 l130 (T115_ _ rfl) Z124 wz125 A126 n127 c128 h132 h133 U w (J.sub _ rfl) X
theorem F_Try_event_Read_1 {r : World} {L : List HP} {w : World} {Z : Nat → Prop} {wz : World} (a0 : (List Int)) (a60 : (List (List Int))) (A0 : Option Addr) (n0 : Nat) (c0 : Nat) (g60 : Nat) {y : (Bool × (List (List Int)))} (G : Try_event_Read_1 a0 a60 = some y) (ha0 : Imm Z wz (kI .u8) A0 n0 c0 a0) (X : SH r (own (kM Z wz (kI .u8)) 111 (some ⟨g60, 0, none⟩) 5 5 a60 :: zone Z wz :: L) w) :
  Ret Tryd.prog 39 #[.slice A0 n0 c0, .func (.func 62) #[] #[.pointer (some ⟨g60, 0, none⟩)]] w fun v w' => ∃ (Z' : Nat → Prop) (wz' : World), v = .bool y.1 ∧ Sub Z wz Z' wz' ∧ SH r (own (kM Z' wz' (kI .u8)) 111 (some ⟨g60, 0, none⟩) 5 5 y.2 :: zone Z' wz' :: L) w' := by
 obtain ⟨y', hy, G⟩ := bnd G
 refine Ret.mono_ (try_walk (R := fun v w' => ∃ (Z' : Nat → Prop) (wz' : World), v = .bool y.1 ∧ Sub Z wz Z' wz' ∧ SH r (own (kM Z' wz' (kI .u8)) 111 (some ⟨g60, 0, none⟩) 5 5 y.2 :: zone Z' wz' :: L) w') en62 X (fun g g4 w1 hS1 => ?_)) (fun v w' h => h)
 replace hS1 := obj106_mk (x := ⟨a0⟩) (hS1.pk 1 |> fun h => (SH.pure_ ha0 (h.pk 1)).pk 1)
 replace hS1 := hS1.pk 1
 replace hS1 := hS1.pk 3
 replace hS1 := hS1.pk 3
 replace hS1 := hS1.pk 3
 rcases y' with y' | y'
 ·replace G := sum_l G
  cases G
  left
  refine Ret.mono_ (RetS.lf (F_event_Read_1 (L := blk g4 4 [.bool false] :: L) (⟨a0⟩ : S106) a60 g g60 hy hS1)) ?_
  rintro v w2 ⟨Z', wz', rfl, hs, X⟩
  replace X := X.pk 3 |>.pk 1
  obtain ⟨A', n', c', X⟩ := obj106_open X
  have hQ := SH.unpure (X.pk 1)
  clear X
  obtain ⟨hi, X⟩ := hQ
  refine ⟨_, A', n', c', X, fun w3 h3 => ⟨Z', wz', ?_, hs, h3⟩⟩
  rw [← hi.ln]
 ·replace G := sum_r G
  cases G
  right
  refine Calls.mono (RetS.rf (F_event_Read_1 (L := blk g4 4 [.bool false] :: L) (⟨a0⟩ : S106) a60 g g60 hy hS1)) ?_
  rintro e w2 ⟨rfl, Z', wz', hs, X⟩
  replace X := X.pk 3 |>.drop 1
  exact ⟨rfl, _, X, fun w3 h3 => ⟨Z', wz', rfl, hs, h3⟩⟩
theorem F_event_Read {r : World} {L : List HP} {w : World} {Z : Nat → Prop} {wz : World} (a0 : (List Int)) (a1 : Int) (a2 : Int) (A0 : Option Addr) (n0 : Nat) (c0 : Nat) {y : ((List S44) × Int × Int)} (G : event_Read a0 a1 a2 = some y) (ha0 : Imm Z wz (kI .u8) A0 n0 c0 a0) (hG0 : Imm Z wz (kI .u32) (some ⟨0, 0, none⟩) 16 16 gl_page_table) (X : SH r (zone Z wz :: L) w) :
  Ret Tryd.prog 42 #[.slice A0 n0 c0, .int .i64 a1, .int .i64 a2] w fun v w' => ∃ (Z' : Nat → Prop) (wz' : World) (B0 : Option Addr) (m0 : Nat) (d0 : Nat), v = .tuple #[(.slice B0 m0 d0), (.int .i64 y.2.1), (.int .i64 y.2.2)] ∧ Sub Z wz Z' wz' ∧ SH r (own k44 44 B0 m0 d0 y.1 :: zone Z' wz' :: L) w' := by
 refine enter Tryd.func42 rfl Tryd.ntmps42 [(0, .slice A0 n0 c0), (1, .int .i64 a1), (2, .int .i64 a2)] rfl (by simp) ?_
 intro U J Qf hQ hQn
 unfold event_Read at G
 refine ws fun K100 hK100 => ?_
 refine x_m J rfl fun U J => ?_
 refine x_m J rfl fun U J => ?_
 refine x_m J rfl fun U J => ?_
 refine wn (hK100 _ _ ?_)
 refine ws fun K101 hK101 => ?_
 refine x_m J rfl fun U J => ?_
 refine x_m J rfl fun U J => ?_
 obtain ⟨y102, h103, G⟩ := bnd G
 refine x_call' en37 J (F_page_Read (L := zone Z wz :: L) a0 a1 A0 n0 c0 h103 0 rfl ha0 hG0 X) (fun v U w hR J => ?_) rfl
 obtain ⟨B104, m105, d106, rfl, X⟩ := hR
 refine x_m J rfl fun U J => ?_
 refine x_v J (r_extract rfl (J.ev rfl) rfl) rfl fun U J => ?_
 refine x_v J (r_extract rfl (J.ev rfl) rfl) rfl fun U J => ?_
 refine x_v J (r_extract rfl (J.ev rfl) rfl) rfl fun U J => ?_
 refine x_v J (r_extract rfl (J.ev rfl) rfl) rfl fun U J => ?_
 refine x_m J rfl fun U J => ?_
 refine x_m J rfl fun U J => ?_
 refine x_m J rfl fun U J => ?_
 refine x_m J rfl fun U J => ?_
 refine wn (hK101 _ _ ?_)
 refine wp_seq_k fun K107 hK107 => ?_
 refine ws fun K108 hK108 => ?_
 refine x_m J rfl fun U J => ?_
 refine x_v J (r_neI rfl (J.ev rfl) (J.ev rfl)) rfl fun U J => ?_
 refine wn (hK108 _ _ ?_)
 refine c_if J rfl (fun hb109 => ?_) fun hb109 => ?_
 ·replace G := ift hb109 G
  refine ws fun K110 hK110 => ?_
  refine x_m J rfl fun U J => ?_
  refine x_m J rfl fun U J => ?_
  refine x_m J rfl fun U J => ?_
  refine x_m J rfl fun U J => ?_
  refine wn (hK110 _ _ ?_)
  refine wp_ret ?_
  replace X := SH.nil_own (d := k44) (e := 44) X
  replace X := X.drop 1 |>.pk 1 |>.pk 1
  cases G
  refine hQ _ _ ?_
  refine lv3 Tryd.results42 J rfl rfl rfl ?_
  exact ⟨Z, wz, none, 0, 0, rfl, (Sub.refl _ _), X⟩
 replace G := iff' hb109 G
 refine wp_skip ?_
 refine hK107 _ _ ?_
 refine ws fun K111 hK111 => ?_
 refine x_alloc' (cs := [.slice none 0 0, .slice none 0 0, .slice none 0 0, .slice none 0 0, .slice none 0 0]) zr111 J X (fun g112 U w X J => ?_) rfl
 replace X := blk_own (d := (kM Z wz (kI .u8))) (xs := ([[], [], [], [], []] : List (List Int))) ⟨[.slice none 0 0], _, rfl, ⟨_, _, _, rfl, Imm.nil⟩, ⟨[.slice none 0 0], _, rfl, ⟨_, _, _, rfl, Imm.nil⟩, ⟨[.slice none 0 0], _, rfl, ⟨_, _, _, rfl, Imm.nil⟩, ⟨[.slice none 0 0], _, rfl, ⟨_, _, _, rfl, Imm.nil⟩, ⟨[.slice none 0 0], _, rfl, ⟨_, _, _, rfl, Imm.nil⟩, rfl⟩⟩⟩⟩⟩ rfl rfl X
 refine wn (hK111 _ _ ?_)
 refine wp_seq_k fun K113 hK113 => ?_
 have hj1 : ∀ (l114 : (List (List Int))) (b115 : Bool), event_Read_j1 a2 y102 l114 b115 = some y → ∀ (Z116 : Nat → Prop) (wz117 : World) (h118 : Sub Z wz Z116 wz117) (U : Act) (w : World), FR 149 [] U [(2, .int .i64 a2), (11, .int .i64 y102.2.2.1), (13, (pP g112)), (14, .bool b115)] → SH r (own (kM Z116 wz117 (kI .u8)) 111 (some ⟨g112, 0, none⟩) 5 5 l114 :: zone Z116 wz117 :: L) w → K113 U w := by
  intro l114 b115 G Z116 wz117 h118 U w J X
  unfold event_Read_j1 at G
  refine hK113 _ _ ?_
  refine wp_seq_k fun K119 hK119 => ?_
  refine ws fun K120 hK120 => ?_
  refine x_m J rfl fun U J => ?_
  refine x_v J (r_not rfl (J.ev rfl)) rfl fun U J => ?_
  refine wn (hK120 _ _ ?_)
  refine c_if J rfl (fun hb121 => ?_) fun hb121 => ?_
  ·replace G := ift hb121 G
   refine ws fun K122 hK122 => ?_
   refine x_m J rfl fun U J => ?_
   refine x_m J rfl fun U J => ?_
   refine x_m J rfl fun U J => ?_
   refine wn (hK122 _ _ ?_)
   refine wp_ret ?_
   replace X := SH.nil_own (d := k44) (e := 44) X
   replace X := X.drop 1 |>.pk 1 |>.pk 1
   cases G
   refine hQ _ _ ?_
   refine lv3 Tryd.results42 J rfl rfl rfl ?_
   exact ⟨Z116, wz117, none, 0, 0, rfl, h118, X⟩
  replace G := iff' hb121 G
  refine wp_skip ?_
  refine hK119 _ _ ?_
  refine ws fun K123 hK123 => ?_
  obtain ⟨x124, h125, G⟩ := bnd G
  refine x_iaA' uu111 sz24 (X.rd 0 rfl) h125 J (fun U J => ?_) rfl
  obtain ⟨cs, hV, hc126⟩ := el (X.rd 0 rfl) h125
  obtain ⟨A127, n128, c129, rfl, h130⟩ := hV
  refine x_ld' uu24 (hc126 0 _ rfl) J (fun U J => ?_) rfl
  obtain ⟨y131, h132, G⟩ := bnd G
  refine x_call' en63 J (F_column_ReadInts (L := own (kM Z116 wz117 (kI .u8)) 111 (some ⟨g112, 0, none⟩) 5 5 l114 :: zone Z116 wz117 :: L) x124 A127 n128 c129 h132 1 rfl h130 X) (fun v U w hR J => ?_) rfl
  obtain ⟨B133, m134, d135, rfl, X⟩ := hR
  refine x_m J rfl fun U J => ?_
  refine x_v J (r_extract rfl (J.ev rfl) rfl) rfl fun U J => ?_
  refine x_v J (r_extract rfl (J.ev rfl) rfl) rfl fun U J => ?_
  refine x_m J rfl fun U J => ?_
  refine x_m J rfl fun U J => ?_
  refine wn (hK123 _ _ ?_)
  refine ws fun K136 hK136 => ?_
  obtain ⟨x137, h138, G⟩ := bnd G
  refine x_iaA' uu111 sz24 (X.rd 1 rfl) h138 J (fun U J => ?_) rfl
  obtain ⟨cs, hV, hc139⟩ := el (X.rd 1 rfl) h138
  obtain ⟨A140, n141, c142, rfl, h143⟩ := hV
  refine x_ld' uu24 (hc139 0 _ rfl) J (fun U J => ?_) rfl
  obtain ⟨y144, h145, G⟩ := bnd G
  refine x_call' en63 J (F_column_ReadInts (L := own (kI .i64) 2 B133 m134 d135 y131.1 :: own (kM Z116 wz117 (kI .u8)) 111 (some ⟨g112, 0, none⟩) 5 5 l114 :: zone Z116 wz117 :: L) x137 A140 n141 c142 h145 2 rfl h143 X) (fun v U w hR J => ?_) rfl
  obtain ⟨B146, m147, d148, rfl, X⟩ := hR
  refine x_m J rfl fun U J => ?_
  refine x_v J (r_extract rfl (J.ev rfl) rfl) rfl fun U J => ?_
  refine x_v J (r_extract rfl (J.ev rfl) rfl) rfl fun U J => ?_
  refine x_m J rfl fun U J => ?_
  refine x_m J rfl fun U J => ?_
  refine wn (hK136 _ _ ?_)
  refine ws fun K149 hK149 => ?_
  obtain ⟨x150, h151, G⟩ := bnd G
  refine x_iaA' uu111 sz24 (X.rd 2 rfl) h151 J (fun U J => ?_) rfl
  obtain ⟨cs, hV, hc152⟩ := el (X.rd 2 rfl) h151
  obtain ⟨A153, n154, c155, rfl, h156⟩ := hV
  refine x_ld' uu24 (hc152 0 _ rfl) J (fun U J => ?_) rfl
  obtain ⟨y157, h158, G⟩ := bnd G
  refine x_call' en63 J (F_column_ReadInts (L := own (kI .i64) 2 B146 m147 d148 y144.1 :: own (kI .i64) 2 B133 m134 d135 y131.1 :: own (kM Z116 wz117 (kI .u8)) 111 (some ⟨g112, 0, none⟩) 5 5 l114 :: zone Z116 wz117 :: L) x150 A153 n154 c155 h158 3 rfl h156 X) (fun v U w hR J => ?_) rfl
  obtain ⟨B159, m160, d161, rfl, X⟩ := hR
  refine x_m J rfl fun U J => ?_
  refine x_v J (r_extract rfl (J.ev rfl) rfl) rfl fun U J => ?_
  refine x_v J (r_extract rfl (J.ev rfl) rfl) rfl fun U J => ?_
  refine x_m J rfl fun U J => ?_
  refine x_m J rfl fun U J => ?_
  refine wn (hK149 _ _ ?_)
  refine ws fun K162 hK162 => ?_
  obtain ⟨x163, h164, G⟩ := bnd G
  refine x_iaA' uu111 sz24 (X.rd 3 rfl) h164 J (fun U J => ?_) rfl
  obtain ⟨cs, hV, hc165⟩ := el (X.rd 3 rfl) h164
  obtain ⟨A166, n167, c168, rfl, h169⟩ := hV
  refine x_ld' uu24 (hc165 0 _ rfl) J (fun U J => ?_) rfl
  obtain ⟨y170, h171, G⟩ := bnd G
  refine x_call' en64 J (F_column_ReadTexts (L := own (kI .i64) 2 B159 m160 d161 y157.1 :: own (kI .i64) 2 B146 m147 d148 y144.1 :: own (kI .i64) 2 B133 m134 d135 y131.1 :: own (kM Z116 wz117 (kI .u8)) 111 (some ⟨g112, 0, none⟩) 5 5 l114 :: zone Z116 wz117 :: L) x163 A166 n167 c168 h171 4 rfl h169 X) (fun v U w hR J => ?_) rfl
  obtain ⟨B172, m173, d174, rfl, X⟩ := hR
  refine x_m J rfl fun U J => ?_
  refine x_v J (r_extract rfl (J.ev rfl) rfl) rfl fun U J => ?_
  refine x_v J (r_extract rfl (J.ev rfl) rfl) rfl fun U J => ?_
  refine x_m J rfl fun U J => ?_
  refine x_m J rfl fun U J => ?_
  refine wn (hK162 _ _ ?_)
  refine ws fun K175 hK175 => ?_
  obtain ⟨x176, h177, G⟩ := bnd G
  refine x_iaA' uu111 sz24 (X.rd 4 rfl) h177 J (fun U J => ?_) rfl
  obtain ⟨cs, hV, hc178⟩ := el (X.rd 4 rfl) h177
  obtain ⟨A179, n180, c181, rfl, h182⟩ := hV
  refine x_ld' uu24 (hc178 0 _ rfl) J (fun U J => ?_) rfl
  obtain ⟨y183, h184, G⟩ := bnd G
  refine x_call' en65 J (F_column_ReadReals (L := own kS 9 B172 m173 d174 y170.1 :: own (kI .i64) 2 B159 m160 d161 y157.1 :: own (kI .i64) 2 B146 m147 d148 y144.1 :: own (kI .i64) 2 B133 m134 d135 y131.1 :: own (kM Z116 wz117 (kI .u8)) 111 (some ⟨g112, 0, none⟩) 5 5 l114 :: zone Z116 wz117 :: L) x176 A179 n180 c181 h184 5 rfl h182 X) (fun v U w hR J => ?_) rfl
  obtain ⟨B185, m186, d187, rfl, X⟩ := hR
  refine x_m J rfl fun U J => ?_
  refine x_v J (r_extract rfl (J.ev rfl) rfl) rfl fun U J => ?_
  refine x_v J (r_extract rfl (J.ev rfl) rfl) rfl fun U J => ?_
  refine x_m J rfl fun U J => ?_
  refine x_m J rfl fun U J => ?_
  refine wn (hK175 _ _ ?_)
  refine ws fun K188 hK188 => ?_
  refine x_m J rfl fun U J => ?_
  refine x_len' uu90 (X.rd 4 rfl).2.1 J (fun U J => ?_) rfl
  refine x_m J rfl fun U J => ?_
  refine wn (hK188 _ _ ?_)
  refine wp_seq_k fun K189 hK189 => ?_
  refine wp_seq_k fun K190 hK190 => ?_
  have hj2 : ∀ (b191 : Bool), event_Read_j2 a2 y102 y131 y144 y157 y170 y183 b191 = some y → ∀ (U : Act) (w : World), FR 149 [] U [(2, .int .i64 a2), (11, .int .i64 y102.2.2.1), (15, .slice B133 m134 d135), (17, .slice B146 m147 d148), (19, .slice B159 m160 d161), (21, .slice B172 m173 d174), (23, .slice B185 m186 d187), (25, .int .i64 (y131.1.length : Int)), (111, .bool b191)] → SH r (own (kI .i64) 2 B133 m134 d135 y131.1 :: own (kI .i64) 2 B146 m147 d148 y144.1 :: own (kI .i64) 2 B159 m160 d161 y157.1 :: own kS 9 B172 m173 d174 y170.1 :: own kF 42 B185 m186 d187 y183.1 :: zone Z116 wz117 :: L) w → K190 U w := by
   intro b191 G U w J X
   unfold event_Read_j2 at G
   refine hK190 _ _ ?_
   refine c_if J rfl (fun hb192 => ?_) fun hb192 => ?_
   ·replace G := ift hb192 G
    refine ws fun K193 hK193 => ?_
    refine x_m J rfl fun U J => ?_
    refine x_m J rfl fun U J => ?_
    refine x_m J rfl fun U J => ?_
    refine wn (hK193 _ _ ?_)
    refine wp_ret ?_
    replace X := SH.nil_own (d := k44) (e := 44) X
    replace X := X.drop 1 |>.drop 1 |>.drop 1 |>.drop 1 |>.drop 1 |>.pk 1 |>.pk 1
    cases G
    refine hQ _ _ ?_
    refine lv3 Tryd.results42 J rfl rfl rfl ?_
    exact ⟨Z116, wz117, none, 0, 0, rfl, h118, X⟩
   replace G := iff' hb192 G
   refine wp_skip ?_
   refine hK189 _ _ ?_
   refine ws fun K194 hK194 => ?_
   refine x_m J rfl fun U J => ?_
   refine wn (hK194 _ _ ?_)
   refine wp_seq_k fun K195 hK195 => ?_
   refine ws fun K196 hK196 => ?_
   refine x_m J rfl fun U J => ?_
   refine x_m J rfl fun U J => ?_
   refine wn (hK196 _ _ ?_)
   refine wp_block_k fun Kx197 hKx197 => ?_
   have hb1 : ∀ (l198 : (List S44)), event_Read_b1 y102 l198 = some y → ∀ (A199 : Option Addr) (n200 : Nat) (c201 : Nat) (U : Act) (w : World), FR 149 [] U [(11, .int .i64 y102.2.2.1), (26, .slice A199 n200 c201)] → SH r (own k44 44 A199 n200 c201 l198 :: zone Z116 wz117 :: L) w → Kx197 U w := by
    intro l198 G A199 n200 c201 U w J X
    unfold event_Read_b1 at G
    refine hKx197 _ _ ?_
    refine hK195 _ _ ?_
    refine ws fun K202 hK202 => ?_
    refine x_m J rfl fun U J => ?_
    refine x_m J rfl fun U J => ?_
    refine x_m J rfl fun U J => ?_
    refine x_m J rfl fun U J => ?_
    refine x_m J rfl fun U J => ?_
    refine wn (hK202 _ _ ?_)
    refine wp_ret ?_
    replace X := X.pk 1 |>.pk 1
    cases G
    refine hQ _ _ ?_
    refine lv3 Tryd.results42 J rfl rfl rfl ?_
    exact ⟨Z116, wz117, A199, n200, c201, rfl, h118, X⟩
   obtain ⟨t203, hl203, G⟩ := bnd G
   have hR203 := G
   have hx203_0 : ∀ (l204 : (List S44)), (.inl (l204)) = t203 → ∀ (A205 : Option Addr) (n206 : Nat) (c203 : Nat) (U : Act) (w : World), FR 149 [] U [(11, .int .i64 y102.2.2.1), (26, .slice A205 n206 c203)] → SH r (own k44 44 A205 n206 c203 l204 :: zone Z116 wz117 :: L) w → Kx197 U w := by
    intro l204 ht A205 n206 c203 U w J X
    subst ht
    replace G : event_Read_x1_0 y102 l204 = some y := G
    unfold event_Read_x1_0 at G
    exact hb1 l204 G A205 n206 c203 U w (J.sub _ rfl) X
   replace X := SH.nil_own (d := k44) (e := 44) X
   replace X := X.pk 6 |>.pk 1 |>.pk 6 |>.pk 6 |>.pk 6 |>.pk 6 |>.pk 6
   refine wp_loop_fn hl203 (fun s U w => ∃ (A207 : Option Addr) (n208 : Nat) (c209 : Nat), FR 149 [] U [(2, .int .i64 a2), (11, .int .i64 y102.2.2.1), (15, .slice B133 m134 d135), (17, .slice B146 m147 d148), (19, .slice B159 m160 d161), (21, .slice B172 m173 d174), (23, .slice B185 m186 d187), (26, .slice A207 n208 c209), (112, .int .i64 (y131.1.length : Int)), (113, .int .i64 s.2)] ∧ SH r (own (kI .i64) 2 B133 m134 d135 y131.1 :: own (kI .i64) 2 B146 m147 d148 y144.1 :: own (kI .i64) 2 B159 m160 d161 y157.1 :: own kS 9 B172 m173 d174 y170.1 :: own kF 42 B185 m186 d187 y183.1 :: own k44 44 A207 n208 c209 s.1 :: zone Z116 wz117 :: L) w) ⟨none, 0, 0, J.sub _ rfl, X⟩ ?_
   intro N203 s203 o203 G N203_ T203_ U w hLab
   obtain ⟨l210, x211⟩ := s203
   replace G : event_Read_l1 a2 y131 y144 y157 y170 y183 l210 x211 = some o203 := G
   unfold event_Read_l1 at G
   try dsimp only at hLab
   obtain ⟨A207, n208, c209, J, X⟩ := hLab
   refine ws fun K212 hK212 => ?_
   refine x_v J (r_ltI rfl (J.ev rfl) (J.ev rfl)) rfl fun U J => ?_
   refine wn (hK212 _ _ ?_)
   refine wp_seq_k fun K213 hK213 => ?_
   refine c_if J rfl (fun hb214 => ?_) fun hb214 => ?_
   ·replace G := ift hb214 G
    refine wp_skip ?_
    refine hK213 _ _ ?_
    refine wp_seq_k fun K215 hK215 => ?_
    refine wp_block_k fun Kx216 hKx216 => ?_
    refine ws fun K217 hK217 => ?_
    refine x_m J rfl fun U J => ?_
    refine x_m J rfl fun U J => ?_
    refine wn (hK217 _ _ ?_)
    refine wp_seq_k fun K218 hK218 => ?_
    refine wp_draw [0, 0, 3, 7, 15, 0, 0, 96, 224, 0, 0, 1536, 3584, 0, 0, 24576, 57344, 0, 0, 393216, 917504, 2097151, 0, 8388607] [22, 23] rfl J X (by kernel_rfl) (by kernel_rfl) (by kernel_rfl) (by kernel_rfl) fun w X => ?_
    obtain ⟨x219, h220, G⟩ := bnd G
    obtain ⟨cs, hV, hc221⟩ := el (X.rd 0 rfl) h220
    obtain rfl := hV
    obtain ⟨x222, h223, G⟩ := ltt_ G
    obtain ⟨x224, h225, G⟩ := bnd G
    obtain ⟨cs, hV, hc226⟩ := el (X.rd 1 rfl) h225
    obtain rfl := hV
    obtain ⟨x227, h228, G⟩ := bnd G
    obtain ⟨cs, hV, hc229⟩ := el (X.rd 2 rfl) h228
    obtain rfl := hV
    obtain ⟨x230, h231, G⟩ := bnd G
    obtain ⟨cs, hV, hc232⟩ := el (X.rd 3 rfl) h231
    obtain rfl := hV
    obtain ⟨x233, h234, G⟩ := bnd G
    obtain ⟨cs, hV, hc235⟩ := el (X.rd 4 rfl) h234
    obtain rfl := hV
    refine ⟨[(0, .slice B133 m134 d135), (1, .int .i64 x211), (2, .pointer (some (ea B133 (x211.toNat * 1)))), (3, .int .i64 x219), (4, .int .u64 x222), (5, .slice B146 m147 d148), (6, .int .i64 x211), (7, .pointer (some (ea B146 (x211.toNat * 1)))), (8, .int .i64 x224), (9, .slice B159 m160 d161), (10, .int .i64 x211), (11, .pointer (some (ea B159 (x211.toNat * 1)))), (12, .int .i64 x227), (13, .slice B172 m173 d174), (14, .int .i64 x211), (15, .pointer (some (ea B172 (x211.toNat * 1)))), (16, str x230), (17, .slice B185 m186 d187), (18, .int .i64 x211), (19, .pointer (some (ea B185 (x211.toNat * 1)))), (20, .float .f64 x233), (21, .agg #[.int .u64 x222, .int .i64 x224, .int .i64 x227, str x230, .float .f64 x233])], ?_⟩
    refine dF [0, 1, 2, 3, 4, 5, 6, 7, 8, 9, 10, 11, 12, 13, 14, 15, 16, 17, 18, 19, 20, 21] [22] (by kernel_rfl) ⟨pm rfl, pm rfl, pt [(116, .slice B133 m134 d135), (117, .int .i64 x211)] rfl (fun U J => y_ia uu90 sz2 (X.rd 0 rfl) h220 J rfl rfl rfl), pt [(118, .pointer (some (ea B133 (x211.toNat * 1))))] rfl (fun U J => y_ld uu2 (hc221 0 _ rfl) J rfl rfl rfl), pt [(119, .int .i64 x219)] rfl (fun U J => (rv_i h223 (r_convI uu2 uu31 rfl (J.ev rfl)) : RunV _ _ _ _ (.int .u64 x222))), pm rfl, pm rfl, pt [(121, .slice B146 m147 d148), (122, .int .i64 x211)] rfl (fun U J => y_ia uu90 sz2 (X.rd 1 rfl) h225 J rfl rfl rfl), pt [(123, .pointer (some (ea B146 (x211.toNat * 1))))] rfl (fun U J => y_ld uu2 (hc226 0 _ rfl) J rfl rfl rfl), pm rfl, pm rfl, pt [(125, .slice B159 m160 d161), (126, .int .i64 x211)] rfl (fun U J => y_ia uu90 sz2 (X.rd 2 rfl) h228 J rfl rfl rfl), pt [(127, .pointer (some (ea B159 (x211.toNat * 1))))] rfl (fun U J => y_ld uu2 (hc229 0 _ rfl) J rfl rfl rfl), pm rfl, pm rfl, pt [(129, .slice B172 m173 d174), (130, .int .i64 x211)] rfl (fun U J => y_ia uu91 sz9 (X.rd 3 rfl) h231 J rfl rfl rfl), pt [(131, .pointer (some (ea B172 (x211.toNat * 1))))] rfl (fun U J => y_ld uu9 (hc232 0 _ rfl) J rfl rfl rfl), pm rfl, pm rfl, pt [(133, .slice B185 m186 d187), (134, .int .i64 x211)] rfl (fun U J => y_ia uu92 sz42 (X.rd 4 rfl) h234 J rfl rfl rfl), pt [(135, .pointer (some (ea B185 (x211.toNat * 1))))] rfl (fun U J => y_ld uu42 (hc235 0 _ rfl) J rfl rfl rfl), pt [(120, .int .u64 x222), (124, .int .i64 x224), (128, .int .i64 x227), (132, str x230), (136, .float .f64 x233)] rfl (fun U J => (r_build (ps := #[(0, .int .u64 x222), (1, .int .i64 x224), (2, .int .i64 x227), (3, str x230), (4, .float .f64 x233)]) rfl (mapev2 J rfl) (fun w => by kernel_rfl) : RunV _ _ _ _ (.agg #[.int .u64 x222, .int .i64 x224, .int .i64 x227, str x230, .float .f64 x233]))), trivial⟩ ⟨et [] rfl (fun U J K hK => ?_), trivial⟩
    refine z_alloc' (cs := [.int .u64 0, .int .i64 0, .int .i64 0, str [], .float .f64 0]) zr44 J X (fun g236 w X => ?_) rfl
    obtain ⟨cs, hV, hc237⟩ := el (X.rd 1 rfl) h220
    obtain rfl := hV
    obtain ⟨cs, hV, hc238⟩ := el (X.rd 2 rfl) h225
    obtain rfl := hV
    obtain ⟨cs, hV, hc239⟩ := el (X.rd 3 rfl) h228
    obtain rfl := hV
    obtain ⟨cs, hV, hc240⟩ := el (X.rd 4 rfl) h231
    obtain rfl := hV
    obtain ⟨cs, hV, hc241⟩ := el (X.rd 5 rfl) h234
    obtain rfl := hV
    refine hK _ [] _ rfl ?_
    refine dF [0, 1, 2, 3, 4, 5, 6, 7, 8, 9, 10, 11, 12, 13, 14, 15, 16, 17, 18, 19, 20, 21] [23] (by kernel_rfl) ⟨pm rfl, pm rfl, pt [(116, .slice B133 m134 d135), (117, .int .i64 x211)] rfl (fun U J => y_ia uu90 sz2 (X.rd 1 rfl) h220 J rfl rfl rfl), pt [(118, .pointer (some (ea B133 (x211.toNat * 1))))] rfl (fun U J => y_ld uu2 (hc237 0 _ rfl) J rfl rfl rfl), pt [(119, .int .i64 x219)] rfl (fun U J => (rv_i h223 (r_convI uu2 uu31 rfl (J.ev rfl)) : RunV _ _ _ _ (.int .u64 x222))), pm rfl, pm rfl, pt [(121, .slice B146 m147 d148), (122, .int .i64 x211)] rfl (fun U J => y_ia uu90 sz2 (X.rd 2 rfl) h225 J rfl rfl rfl), pt [(123, .pointer (some (ea B146 (x211.toNat * 1))))] rfl (fun U J => y_ld uu2 (hc238 0 _ rfl) J rfl rfl rfl), pm rfl, pm rfl, pt [(125, .slice B159 m160 d161), (126, .int .i64 x211)] rfl (fun U J => y_ia uu90 sz2 (X.rd 3 rfl) h228 J rfl rfl rfl), pt [(127, .pointer (some (ea B159 (x211.toNat * 1))))] rfl (fun U J => y_ld uu2 (hc239 0 _ rfl) J rfl rfl rfl), pm rfl, pm rfl, pt [(129, .slice B172 m173 d174), (130, .int .i64 x211)] rfl (fun U J => y_ia uu91 sz9 (X.rd 4 rfl) h231 J rfl rfl rfl), pt [(131, .pointer (some (ea B172 (x211.toNat * 1))))] rfl (fun U J => y_ld uu9 (hc240 0 _ rfl) J rfl rfl rfl), pm rfl, pm rfl, pt [(133, .slice B185 m186 d187), (134, .int .i64 x211)] rfl (fun U J => y_ia uu92 sz42 (X.rd 5 rfl) h234 J rfl rfl rfl), pt [(135, .pointer (some (ea B185 (x211.toNat * 1))))] rfl (fun U J => y_ld uu42 (hc241 0 _ rfl) J rfl rfl rfl), pt [(120, .int .u64 x222), (124, .int .i64 x224), (128, .int .i64 x227), (132, str x230), (136, .float .f64 x233)] rfl (fun U J => (r_build (ps := #[(0, .int .u64 x222), (1, .int .i64 x224), (2, .int .i64 x227), (3, str x230), (4, .float .f64 x233)]) rfl (mapev2 J rfl) (fun w => by kernel_rfl) : RunV _ _ _ _ (.agg #[.int .u64 x222, .int .i64 x224, .int .i64 x227, str x230, .float .f64 x233]))), trivial⟩ ⟨et [(28, (pP g236)), (137, .agg #[.int .u64 x222, .int .i64 x224, .int .i64 x227, str x230, .float .f64 x233])] rfl (fun U J K hK => ?_), trivial⟩
    refine z_stb' 0 sz44 J X rfl (fun  w X => ?_) rfl
    refine hK _ [] _ rfl ?_
    refine dEnd [] (by kernel_rfl) trivial ⟨by kernel_rfl, by kernel_rfl⟩ [(2, .int .i64 a2), (11, .int .i64 y102.2.2.1), (15, .slice B133 m134 d135), (17, .slice B146 m147 d148), (19, .slice B159 m160 d161), (21, .slice B172 m173 d174), (23, .slice B185 m186 d187), (26, .slice A207 n208 c209), (28, (pP g236)), (112, .int .i64 (y131.1.length : Int)), (113, .int .i64 x211)] rfl (fun U J => ?_)
    refine hK218 _ _ ?_
    refine wp_seq_k fun K242 hK242 => ?_
    refine ws fun K243 hK243 => ?_
    refine x_lda' (ad := ⟨g236, 0, none⟩) (cs := [.int .u64 x222, .int .i64 x224, .int .i64 x227, str x230, .float .f64 x233]) uu44 sz44 (fun j u h => by rw [add_mk, Nat.zero_add]; exact X.cell 0 rfl j u h) J (fun U J => ?_) rfl
    refine x_m J rfl fun U J => ?_
    obtain ⟨y244, h245, G⟩ := bnd G
    refine x_call' en23 J (F_event_Form (L := blk g236 44 [.int .u64 x222, .int .i64 x224, .int .i64 x227, str x230, .float .f64 x233] :: own (kI .i64) 2 B133 m134 d135 y131.1 :: own (kI .i64) 2 B146 m147 d148 y144.1 :: own (kI .i64) 2 B159 m160 d161 y157.1 :: own kS 9 B172 m173 d174 y170.1 :: own kF 42 B185 m186 d187 y183.1 :: own k44 44 A207 n208 c209 l210 :: zone Z116 wz117 :: L) (⟨x222, x224, x227, x230, x233⟩ : S44) a2 h245 X) (fun v U w hR J => ?_) rfl
    obtain ⟨rfl, X⟩ := hR
    refine x_v J (r_not rfl (J.ev rfl)) rfl fun U J => ?_
    refine wn (hK243 _ _ ?_)
    refine c_if J rfl (fun hb246 => ?_) fun hb246 => ?_
    ·replace G := ift hb246 G
     refine ws fun K247 hK247 => ?_
     refine x_m J rfl fun U J => ?_
     refine x_m J rfl fun U J => ?_
     refine x_m J rfl fun U J => ?_
     refine wn (hK247 _ _ ?_)
     refine wp_ret ?_
     replace X := SH.nil_own (d := k44) (e := 44) X
     replace X := X.drop 1 |>.drop 1 |>.drop 1 |>.drop 1 |>.drop 1 |>.drop 1 |>.drop 1 |>.pk 1 |>.pk 1
     cases G
     have ht := T203_ _ rfl
     subst ht
     replace G := hR203
     replace G : some ([], 0, 3) = some y := G
     cases G
     refine hQ _ _ ?_
     refine lv3 Tryd.results42 J rfl rfl rfl ?_
     exact ⟨Z116, wz117, none, 0, 0, rfl, h118, X⟩
    replace G := iff' hb246 G
    refine wp_skip ?_
    refine hK242 _ _ ?_
    refine wp_reg ?_
    refine x_m J rfl fun U J => ?_
    refine x_lda' (ad := ⟨g236, 0, none⟩) (cs := [.int .u64 x222, .int .i64 x224, .int .i64 x227, str x230, .float .f64 x233]) uu44 sz44 (fun j u h => by rw [add_mk, Nat.zero_add]; exact X.cell 0 rfl j u h) J (fun U J => ?_) rfl
    refine x_bsl' (d := k44) (e := 44) (ps := #[(0, .agg #[.int .u64 x222, .int .i64 x224, .int .i64 x227, str x230, .float .f64 x233])]) (cells := [.int .u64 x222, .int .i64 x224, .int .i64 x227, str x230, .float .f64 x233]) (xs := [(⟨x222, x224, x227, x230, x233⟩ : S44)]) (fun w => by kernel_rfl) rfl ⟨[.int .u64 x222, .int .i64 x224, .int .i64 x227, str x230, .float .f64 x233], _, rfl, rfl, rfl⟩ J X (fun g248 U w X J => ?_) rfl
    obtain ⟨h249, G⟩ := chk_some G
    have hr := X.rd 0 rfl
    refine x_app' 7 inf44 uu22 J X hr.1 hr.2.1 h249 rfl (fun A250 n251 c252 U w X J => ?_) rfl
    refine x_m J rfl fun U J => ?_
    refine wpList_nil ?_
    refine hKx216 _ _ ?_
    refine hK215 _ _ ?_
    refine wp_reg ?_
    obtain ⟨x253, h254, G⟩ := ltt_ G
    refine x_v (v := .int .i64 x253) J (rv_i h254 (r_add rfl (J.ev rfl) (J.ev rfl))) rfl fun U J => ?_
    refine x_m J rfl fun U J => ?_
    refine wpList_nil ?_
    replace X := X.drop 1 |>.drop 1 |>.pk 6 |>.pk 1 |>.pk 6 |>.pk 6 |>.pk 6 |>.pk 6 |>.pk 6
    cases G
    exact ⟨_, N203_ _ rfl, A250, n251, c252, J.sub _ rfl, X⟩
   replace G := iff' hb214 G
   refine wp_exit ?_
   replace X := X.drop 0 |>.drop 0 |>.drop 0 |>.drop 0 |>.drop 0
   cases G
   exact hx203_0 l210 (T203_ _ rfl) A207 n208 c209 U w (J.sub _ rfl) X
  refine wp_reg ?_
  refine x_m J rfl fun U J => ?_
  refine x_m J rfl fun U J => ?_
  refine x_m J rfl fun U J => ?_
  refine x_m J rfl fun U J => ?_
  refine x_m J rfl fun U J => ?_
  refine x_bsl' (d := (kI .i64)) (e := 25) (ps := #[(0, .int .i64 y131.2), (1, .int .i64 y144.2), (2, .int .i64 y157.2), (3, .int .i64 y170.2), (4, .int .i64 y183.2)]) (cells := [.int .i64 y131.2, .int .i64 y144.2, .int .i64 y157.2, .int .i64 y170.2, .int .i64 y183.2]) (xs := [y131.2, y144.2, y157.2, y170.2, y183.2]) (fun w => by kernel_rfl) rfl ⟨[.int .i64 y131.2], _, rfl, rfl, ⟨[.int .i64 y144.2], _, rfl, rfl, ⟨[.int .i64 y157.2], _, rfl, rfl, ⟨[.int .i64 y170.2], _, rfl, rfl, ⟨[.int .i64 y183.2], _, rfl, rfl, rfl⟩⟩⟩⟩⟩ J X (fun g255 U w X J => ?_) rfl
  obtain ⟨y256, h257, G⟩ := bnd G
  refine x_call' en66 J (F_slices_Contains_api_Errno_api_Errno (L := own (kI .i64) 25 (some ⟨g255, 0, none⟩) 5 5 [y131.2, y144.2, y157.2, y170.2, y183.2] :: own kF 42 B185 m186 d187 y183.1 :: own kS 9 B172 m173 d174 y170.1 :: own (kI .i64) 2 B159 m160 d161 y157.1 :: own (kI .i64) 2 B146 m147 d148 y144.1 :: own (kI .i64) 2 B133 m134 d135 y131.1 :: own (kM Z116 wz117 (kI .u8)) 111 (some ⟨g112, 0, none⟩) 5 5 l114 :: zone Z116 wz117 :: L) [y131.2, y144.2, y157.2, y170.2, y183.2] 3 (some ⟨g255, 0, none⟩) 5 5 h257 (RdL.own 0 rfl (X.dropN 0)) X) (fun v U w hR J => ?_) rfl
  obtain ⟨rfl, X⟩ := hR
  refine x_m J rfl fun U J => ?_
  refine bcase (b := y256) (fun hb258 => ?_) fun hb258 => ?_
  ·replace G := ift hb258 G
   refine xO 4 hb258 J rfl fun U J => ?_
   refine x_pickt' hb258 J (fun U J => ?_) rfl
   refine x_m J rfl fun U J => ?_
   refine xO 4 rfl J rfl fun U J => ?_
   refine x_pickt' rfl J (fun U J => ?_) rfl
   refine x_m J rfl fun U J => ?_
   refine xO 4 rfl J rfl fun U J => ?_
   refine x_pickt' rfl J (fun U J => ?_) rfl
   refine x_m J rfl fun U J => ?_
   refine xO 4 rfl J rfl fun U J => ?_
   refine x_pickt' rfl J (fun U J => ?_) rfl
   refine wpList_nil ?_
   replace X := X.drop 0 |>.drop 5 |>.pk 5 |>.pk 1 |>.pk 2 |>.pk 3 |>.pk 4 |>.pk 5
   exact hj2 true G U w (J.sub _ rfl) X
  replace G := iff' hb258 G
  refine x_on' hb258 J ?_ rfl
  refine x_m J rfl fun U J => ?_
  refine x_on' hb258 J ?_ rfl
  refine x_len' uu90 (X.rd 4 rfl).2.1 J (fun U J => ?_) rfl
  refine x_on' hb258 J ?_ rfl
  refine x_m J rfl fun U J => ?_
  refine x_on' hb258 J ?_ rfl
  refine x_v J (r_neI rfl (J.ev rfl) (J.ev rfl)) rfl fun U J => ?_
  refine x_pickf' hb258 J (fun U J => ?_) rfl
  refine x_m J rfl fun U J => ?_
  refine bcase (b := (y144.1.length : Int) != (y131.1.length : Int)) (fun hb259 => ?_) fun hb259 => ?_
  ·replace G := ift hb259 G
   refine xO 4 hb259 J rfl fun U J => ?_
   refine x_pickt' hb259 J (fun U J => ?_) rfl
   refine x_m J rfl fun U J => ?_
   refine xO 4 rfl J rfl fun U J => ?_
   refine x_pickt' rfl J (fun U J => ?_) rfl
   refine x_m J rfl fun U J => ?_
   refine xO 4 rfl J rfl fun U J => ?_
   refine x_pickt' rfl J (fun U J => ?_) rfl
   refine wpList_nil ?_
   replace X := X.drop 0 |>.drop 5 |>.pk 5 |>.pk 1 |>.pk 2 |>.pk 3 |>.pk 4 |>.pk 5
   exact hj2 true G U w (J.sub _ rfl) X
  replace G := iff' hb259 G
  refine x_on' hb259 J ?_ rfl
  refine x_m J rfl fun U J => ?_
  refine x_on' hb259 J ?_ rfl
  refine x_len' uu90 (X.rd 3 rfl).2.1 J (fun U J => ?_) rfl
  refine x_on' hb259 J ?_ rfl
  refine x_m J rfl fun U J => ?_
  refine x_on' hb259 J ?_ rfl
  refine x_v J (r_neI rfl (J.ev rfl) (J.ev rfl)) rfl fun U J => ?_
  refine x_pickf' hb259 J (fun U J => ?_) rfl
  refine x_m J rfl fun U J => ?_
  refine bcase (b := (y157.1.length : Int) != (y131.1.length : Int)) (fun hb260 => ?_) fun hb260 => ?_
  ·replace G := ift hb260 G
   refine xO 4 hb260 J rfl fun U J => ?_
   refine x_pickt' hb260 J (fun U J => ?_) rfl
   refine x_m J rfl fun U J => ?_
   refine xO 4 rfl J rfl fun U J => ?_
   refine x_pickt' rfl J (fun U J => ?_) rfl
   refine wpList_nil ?_
   replace X := X.drop 0 |>.drop 5 |>.pk 5 |>.pk 1 |>.pk 2 |>.pk 3 |>.pk 4 |>.pk 5
   exact hj2 true G U w (J.sub _ rfl) X
  replace G := iff' hb260 G
  refine x_on' hb260 J ?_ rfl
  refine x_m J rfl fun U J => ?_
  refine x_on' hb260 J ?_ rfl
  refine x_len' uu91 (X.rd 2 rfl).2.1 J (fun U J => ?_) rfl
  refine x_on' hb260 J ?_ rfl
  refine x_m J rfl fun U J => ?_
  refine x_on' hb260 J ?_ rfl
  refine x_v J (r_neI rfl (J.ev rfl) (J.ev rfl)) rfl fun U J => ?_
  refine x_pickf' hb260 J (fun U J => ?_) rfl
  refine x_m J rfl fun U J => ?_
  refine bcase (b := (y170.1.length : Int) != (y131.1.length : Int)) (fun hb261 => ?_) fun hb261 => ?_
  ·replace G := ift hb261 G
   refine xO 4 hb261 J rfl fun U J => ?_
   refine x_pickt' hb261 J (fun U J => ?_) rfl
   refine wpList_nil ?_
   replace X := X.drop 0 |>.drop 5 |>.pk 5 |>.pk 1 |>.pk 2 |>.pk 3 |>.pk 4 |>.pk 5
   exact hj2 true G U w (J.sub _ rfl) X
  replace G := iff' hb261 G
  refine x_on' hb261 J ?_ rfl
  refine x_m J rfl fun U J => ?_
  refine x_on' hb261 J ?_ rfl
  refine x_len' uu92 (X.rd 1 rfl).2.1 J (fun U J => ?_) rfl
  refine x_on' hb261 J ?_ rfl
  refine x_m J rfl fun U J => ?_
  refine x_on' hb261 J ?_ rfl
  refine x_v J (r_neI rfl (J.ev rfl) (J.ev rfl)) rfl fun U J => ?_
  refine x_pickf' hb261 J (fun U J => ?_) rfl
  refine wpList_nil ?_
  replace X := X.drop 0 |>.drop 5 |>.pk 5 |>.pk 1 |>.pk 2 |>.pk 3 |>.pk 4 |>.pk 5
  exact hj2 ((y183.1.length : Int) != (y131.1.length : Int)) G U w (J.sub _ rfl) X
 refine wp_reg ?_
 refine x_m J rfl fun U J => ?_
 refine x_v J (r_eqI rfl (J.ev rfl) (J.ev rfl)) rfl fun U J => ?_
 refine x_m J rfl fun U J => ?_
 refine bcase (b := y102.1 == 101) (fun hb262 => ?_) fun hb262 => ?_
 ·replace G := ift hb262 G
  refine x_on' hb262 J ?_ rfl
  refine x_m J rfl fun U J => ?_
  refine x_on' hb262 J ?_ rfl
  refine x_v J (r_makeFunc rfl (mapev (vals := #[]) J rfl) (mapev (vals := #[.pointer (some ⟨g112, 0, none⟩)]) J rfl)) rfl fun U J => ?_
  refine x_on' hb262 J ?_ rfl
  replace X := X.pk 2 |>.pk 2
  obtain ⟨Z263, wz264, X, h265, sb870⟩ := SH.freeze (n := m105) (c := d106) (A := B104) X
  have h266 := Imm.sub ha0 sb870
  replace X := X.pk 1
  replace X := X.kind (d' := (kM Z263 wz264 (kI .u8))) rfl (kM_sub sb870)
  replace X := X.pk 1 |>.pk 1
  obtain ⟨y267, h268, G⟩ := bnd G
  refine x_call' en39 J (F_Try_event_Read_1 (L := L) y102.2.1 ([[], [], [], [], []] : List (List Int)) B104 m105 d106 g112 h268 h265 X) (fun v U w hR J => ?_) rfl
  obtain ⟨Z269, wz270, rfl, h271, X⟩ := hR
  have h272 := Imm.sub h266 h271
  have h273 := Imm.sub h265 h271
  refine x_pickt' hb262 J (fun U J => ?_) rfl
  refine x_m J rfl fun U J => ?_
  refine wpList_nil ?_
  exact hj1 y267.2 y267.1 G Z269 wz270 (Sub.trans sb870 h271) U w (J.sub _ rfl) X
 replace G := iff' hb262 G
 refine xO 3 hb262 J rfl fun U J => ?_
 refine x_pickf' hb262 J (fun U J => ?_) rfl
 refine x_m J rfl fun U J => ?_
 refine wpList_nil ?_
 replace X := X.drop 1
 exact hj1 ([[], [], [], [], []] : List (List Int)) false G Z wz (Sub.refl _ _) U w (J.sub _ rfl) X
noncomputable section
set_option linter.unusedSimpArgs false
def event_Lay_b2 (a0 : (List Int)) (l16840 : (List Int)) : Option ((List Int)) :=
  (page_Lay a0 101 l16840).bind fun y16845 => (some y16845)
def event_Lay_x1_2 (a0 : (List Int)) (l16913 : (List Int)) : Option ((List Int)) :=
  event_Lay_b2 a0 l16913
def event_Lay_l1 (y16695 : ((List Int))) (y16700 : ((List Int))) (y16705 : ((List Int))) (y16710 : ((List Int))) (y16715 : ((List Int))) (l16883 : (List Int)) (x16887 : Int) : Option (((List Int) × Int) ⊕ (((List Int)))) :=
  if (decide (x16887 < ([y16695, y16700, y16705, y16710, y16715].length : Int))) = true then ((at_ [y16695, y16700, y16705, y16710, y16715] x16887).bind fun x16924 => ((column_Text l16883 (bts x16924)).bind fun y16931 => (ltt (IntKind.i64.wrap (x16887 + 1)) fun x16936 => (some (.inl (y16931, x16936)))))) else (some (.inr (l16883)))
def event_Lay_b1 (a0 : (List Int)) (l16433 : (List Int)) (l16437 : (List Int)) (l16441 : (List Int)) (l16445 : (List (List UInt8))) (l16449 : (List Nat)) : Option ((List Int)) :=
  (column_Ints l16433).bind fun y16695 => ((column_Ints l16437).bind fun y16700 => ((column_Ints l16441).bind fun y16705 => ((column_Texts l16445).bind fun y16710 => ((column_Reals l16449).bind fun y16715 => ((loop (fun s => event_Lay_l1 y16695 y16700 y16705 y16710 y16715 s.1 s.2) ([], 0)).bind fun t => event_Lay_x1_2 a0 t)))))
def event_Lay_x2_0 (a0 : (List Int)) (l20581 : (List Int)) (l20585 : (List Int)) (l20589 : (List Int)) (l20593 : (List (List UInt8))) (l20597 : (List Nat)) : Option ((List Int)) :=
  event_Lay_b1 a0 l20581 l20585 l20589 l20593 l20597
def event_Lay_b3 (x18789 : Int) (l21919 : (List Int)) (l21923 : (List Int)) (l21927 : (List Int)) (l21931 : (List (List UInt8))) (l21935 : (List Nat)) : Option (((List Int) × (List Int) × (List Int) × (List (List UInt8)) × (List Nat) × Int) ⊕ (((List Int) × (List Int) × (List Int) × (List (List UInt8)) × (List Nat)))) :=
  ltt (IntKind.i64.wrap (x18789 + 1)) fun x21939 => (some (.inl (l21919, l21923, l21927, l21931, l21935, x21939)))
def event_Lay_j1 (l18773 : (List Int)) (l18777 : (List Int)) (l18781 : (List (List UInt8))) (l18785 : (List Nat)) (x18789 : Int) (x21942 : S44) (l22139 : (List Int)) : Option (((List Int) × (List Int) × (List Int) × (List (List UInt8)) × (List Nat) × Int) ⊕ (((List Int) × (List Int) × (List Int) × (List (List UInt8)) × (List Nat)))) :=
  chk (l18781.length + [x21942.f3].length ≤ 140737488355328 / 16) (chk (l18785.length + [x21942.f4].length ≤ 140737488355328 / 8) (event_Lay_b3 x18789 l22139 (l18773 ++ [x21942.f1]) (l18777 ++ [x21942.f2]) (l18781 ++ [x21942.f3]) (l18785 ++ [x21942.f4])))
def event_Lay_l2 (a1 : (List S44)) (l18769 : (List Int)) (l18773 : (List Int)) (l18777 : (List Int)) (l18781 : (List (List UInt8))) (l18785 : (List Nat)) (x18789 : Int) : Option (((List Int) × (List Int) × (List Int) × (List (List UInt8)) × (List Nat) × Int) ⊕ (((List Int) × (List Int) × (List Int) × (List (List UInt8)) × (List Nat)))) :=
  if (decide (x18789 < (a1.length : Int))) = true then ((at_ a1 x18789).bind fun x21942 => (ltt (IntKind.i64.wrap x21942.f0) fun x22178 => (chk (l18769.length + [x22178].length ≤ 140737488355328 / 8) (chk (l18773.length + [x21942.f1].length ≤ 140737488355328 / 8) (chk (l18777.length + [x21942.f2].length ≤ 140737488355328 / 8) (event_Lay_j1 l18773 l18777 l18781 l18785 x18789 x21942 (l18769 ++ [x22178]))))))) else (some (.inr (l18769, l18773, l18777, l18781, l18785)))
def event_Lay (a0 : (List Int)) (a1 : (List S44)) : Option ((List Int)) :=
  (loop (fun s => event_Lay_l2 a1 s.1 s.2.1 s.2.2.1 s.2.2.2.1 s.2.2.2.2.1 s.2.2.2.2.2) ([], [], [], [], [], 0)).bind fun t => event_Lay_x2_0 a0 t.1 t.2.1 t.2.2.1 t.2.2.2.1 t.2.2.2.2
end
theorem F_event_Lay {r : World} {L : List HP} {w : World} {Z : Nat → Prop} {wz : World} (a0 : (List Int)) (a1 : (List S44)) (A0 : Option Addr) (n0 : Nat) (c0 : Nat) (A1 : Option Addr) (n1 : Nat) (c1 : Nat) {y : ((List Int))} (G : event_Lay a0 a1 = some y) (ha1 : Imm Z wz k44 A1 n1 c1 a1) (hG0 : Imm Z wz (kI .u32) (some ⟨0, 0, none⟩) 16 16 gl_page_table) (X : SH r (own (kI .u8) 5 A0 n0 c0 a0 :: zone Z wz :: L) w) :
  Ret Tryd.prog 26 #[.slice A0 n0 c0, .slice A1 n1 c1] w fun v w' => ∃ (Z' : Nat → Prop) (wz' : World) (B0 : Option Addr) (m0 : Nat) (d0 : Nat), v = .slice B0 m0 d0 ∧ Sub Z wz Z' wz' ∧ SH r (own (kI .u8) 5 B0 m0 d0 y :: zone Z' wz' :: L) w' := by
 refine enter Tryd.func26 rfl Tryd.ntmps26 [(0, .slice A0 n0 c0), (1, .slice A1 n1 c1)] rfl (by simp) ?_
 intro U J Qf hQ hQn
 unfold event_Lay at G
 refine ws fun K100 hK100 => ?_
 refine x_m J rfl fun U J => ?_
 refine wn (hK100 _ _ ?_)
 refine ws fun K101 hK101 => ?_
 refine x_m J rfl fun U J => ?_
 refine x_m J rfl fun U J => ?_
 refine x_m J rfl fun U J => ?_
 refine wn (hK101 _ _ ?_)
 refine ws fun K102 hK102 => ?_
 refine x_m J rfl fun U J => ?_
 refine wn (hK102 _ _ ?_)
 refine ws fun K103 hK103 => ?_
 refine x_m J rfl fun U J => ?_
 refine wn (hK103 _ _ ?_)
 refine wp_seq_k fun K104 hK104 => ?_
 refine ws fun K105 hK105 => ?_
 refine x_m J rfl fun U J => ?_
 refine x_len' uu22 (X.imm 1 ha1 rfl).2.1 J (fun U J => ?_) rfl
 refine x_m J rfl fun U J => ?_
 refine wn (hK105 _ _ ?_)
 refine wp_block_k fun Kx106 hKx106 => ?_
 have hb1 : ∀ (l107 : (List Int)) (l108 : (List Int)) (l109 : (List Int)) (l110 : (List (List UInt8))) (l111 : (List Nat)), event_Lay_b1 a0 l107 l108 l109 l110 l111 = some y → ∀ (A112 : Option Addr) (n113 : Nat) (c114 : Nat) (A115 : Option Addr) (n116 : Nat) (c117 : Nat) (A118 : Option Addr) (n119 : Nat) (c120 : Nat) (A121 : Option Addr) (n122 : Nat) (c123 : Nat) (A124 : Option Addr) (n125 : Nat) (c126 : Nat) (U : Act) (w : World), FR 72 [] U [(0, .slice A0 n0 c0), (5, .slice A112 n113 c114), (6, .slice A115 n116 c117), (7, .slice A118 n119 c120), (8, .slice A121 n122 c123), (9, .slice A124 n125 c126)] → SH r (own (kI .u8) 5 A0 n0 c0 a0 :: own (kI .i64) 2 A112 n113 c114 l107 :: own (kI .i64) 2 A115 n116 c117 l108 :: own (kI .i64) 2 A118 n119 c120 l109 :: own kS 9 A121 n122 c123 l110 :: own kF 42 A124 n125 c126 l111 :: zone Z wz :: L) w → Kx106 U w := by
  intro l107 l108 l109 l110 l111 G A112 n113 c114 A115 n116 c117 A118 n119 c120 A121 n122 c123 A124 n125 c126 U w J X
  unfold event_Lay_b1 at G
  refine hKx106 _ _ ?_
  refine hK104 _ _ ?_
  refine ws fun K127 hK127 => ?_
  refine x_m J rfl fun U J => ?_
  refine wn (hK127 _ _ ?_)
  refine wp_seq_k fun K128 hK128 => ?_
  refine ws fun K129 hK129 => ?_
  refine x_m J rfl fun U J => ?_
  obtain ⟨y130, h131, G⟩ := bnd G
  refine x_call' en45 J (F_column_Ints (L := own (kI .u8) 5 A0 n0 c0 a0 :: own (kI .i64) 2 A112 n113 c114 l107 :: own (kI .i64) 2 A115 n116 c117 l108 :: own (kI .i64) 2 A118 n119 c120 l109 :: own kS 9 A121 n122 c123 l110 :: own kF 42 A124 n125 c126 l111 :: zone Z wz :: L) l107 A112 n113 c114 h131 (RdL.own 1 rfl (X.dropN 0)) X) (fun v U w hR J => ?_) rfl
  obtain ⟨B132, m133, d134, rfl, X⟩ := hR
  refine x_m J rfl fun U J => ?_
  obtain ⟨y135, h136, G⟩ := bnd G
  refine x_call' en45 J (F_column_Ints (L := own (kI .u8) 5 B132 m133 d134 y130 :: own (kI .u8) 5 A0 n0 c0 a0 :: own (kI .i64) 2 A112 n113 c114 l107 :: own (kI .i64) 2 A115 n116 c117 l108 :: own (kI .i64) 2 A118 n119 c120 l109 :: own kS 9 A121 n122 c123 l110 :: own kF 42 A124 n125 c126 l111 :: zone Z wz :: L) l108 A115 n116 c117 h136 (RdL.own 3 rfl (X.dropN 0)) X) (fun v U w hR J => ?_) rfl
  obtain ⟨B137, m138, d139, rfl, X⟩ := hR
  refine x_m J rfl fun U J => ?_
  obtain ⟨y140, h141, G⟩ := bnd G
  refine x_call' en45 J (F_column_Ints (L := own (kI .u8) 5 B137 m138 d139 y135 :: own (kI .u8) 5 B132 m133 d134 y130 :: own (kI .u8) 5 A0 n0 c0 a0 :: own (kI .i64) 2 A112 n113 c114 l107 :: own (kI .i64) 2 A115 n116 c117 l108 :: own (kI .i64) 2 A118 n119 c120 l109 :: own kS 9 A121 n122 c123 l110 :: own kF 42 A124 n125 c126 l111 :: zone Z wz :: L) l109 A118 n119 c120 h141 (RdL.own 5 rfl (X.dropN 0)) X) (fun v U w hR J => ?_) rfl
  obtain ⟨B142, m143, d144, rfl, X⟩ := hR
  refine x_m J rfl fun U J => ?_
  obtain ⟨y145, h146, G⟩ := bnd G
  refine x_call' en46 J (F_column_Texts (L := own (kI .u8) 5 B142 m143 d144 y140 :: own (kI .u8) 5 B137 m138 d139 y135 :: own (kI .u8) 5 B132 m133 d134 y130 :: own (kI .u8) 5 A0 n0 c0 a0 :: own (kI .i64) 2 A112 n113 c114 l107 :: own (kI .i64) 2 A115 n116 c117 l108 :: own (kI .i64) 2 A118 n119 c120 l109 :: own kS 9 A121 n122 c123 l110 :: own kF 42 A124 n125 c126 l111 :: zone Z wz :: L) l110 A121 n122 c123 h146 (RdL.own 7 rfl (X.dropN 0)) X) (fun v U w hR J => ?_) rfl
  obtain ⟨B147, m148, d149, rfl, X⟩ := hR
  refine x_m J rfl fun U J => ?_
  obtain ⟨y150, h151, G⟩ := bnd G
  refine x_call' en47 J (F_column_Reals (L := own (kI .u8) 5 B147 m148 d149 y145 :: own (kI .u8) 5 B142 m143 d144 y140 :: own (kI .u8) 5 B137 m138 d139 y135 :: own (kI .u8) 5 B132 m133 d134 y130 :: own (kI .u8) 5 A0 n0 c0 a0 :: own (kI .i64) 2 A112 n113 c114 l107 :: own (kI .i64) 2 A115 n116 c117 l108 :: own (kI .i64) 2 A118 n119 c120 l109 :: own kS 9 A121 n122 c123 l110 :: own kF 42 A124 n125 c126 l111 :: zone Z wz :: L) l111 A124 n125 c126 h151 (RdL.own 9 rfl (X.dropN 0)) X) (fun v U w hR J => ?_) rfl
  obtain ⟨B152, m153, d154, rfl, X⟩ := hR
  replace X := X.pk 11 |>.pk 5
  obtain ⟨Z155, wz156, X, h157, sb16723⟩ := SH.freeze (n := m133) (c := d134) (A := B132) X
  replace X := X.pk 0 |>.pk 4
  obtain ⟨Z158, wz159, X, h160, sb16727⟩ := SH.freeze (n := m138) (c := d139) (A := B137) X
  have h161 := Imm.sub h157 sb16727
  replace X := X.pk 0 |>.pk 3
  obtain ⟨Z162, wz163, X, h164, sb16732⟩ := SH.freeze (n := m143) (c := d144) (A := B142) X
  have h165 := Imm.sub h161 sb16732
  have h166 := Imm.sub h160 sb16732
  replace X := X.pk 0 |>.pk 2
  obtain ⟨Z167, wz168, X, h169, sb16738⟩ := SH.freeze (n := m148) (c := d149) (A := B147) X
  have h170 := Imm.sub h165 sb16738
  have h171 := Imm.sub h166 sb16738
  have h172 := Imm.sub h164 sb16738
  replace X := X.pk 0 |>.pk 1
  obtain ⟨Z173, wz174, X, h175, sb16745⟩ := SH.freeze (n := m153) (c := d154) (A := B152) X
  have h176 := Imm.sub h170 sb16745
  have h177 := Imm.sub h171 sb16745
  have h178 := Imm.sub h172 sb16745
  have h179 := Imm.sub h169 sb16745
  refine x_bsl' (d := (kM Z173 wz174 (kI .u8))) (e := 24) (ps := #[(0, .slice B132 m133 d134), (1, .slice B137 m138 d139), (2, .slice B142 m143 d144), (3, .slice B147 m148 d149), (4, .slice B152 m153 d154)]) (cells := [.slice B132 m133 d134, .slice B137 m138 d139, .slice B142 m143 d144, .slice B147 m148 d149, .slice B152 m153 d154]) (xs := [y130, y135, y140, y145, y150]) (fun w => by kernel_rfl) rfl ⟨[.slice B132 m133 d134], _, rfl, ⟨_, _, _, rfl, h176⟩, ⟨[.slice B137 m138 d139], _, rfl, ⟨_, _, _, rfl, h177⟩, ⟨[.slice B142 m143 d144], _, rfl, ⟨_, _, _, rfl, h178⟩, ⟨[.slice B147 m148 d149], _, rfl, ⟨_, _, _, rfl, h179⟩, ⟨[.slice B152 m153 d154], _, rfl, ⟨_, _, _, rfl, h175⟩, rfl⟩⟩⟩⟩⟩ J X (fun g180 U w X J => ?_) rfl
  refine x_len' uu96 (X.rd 0 rfl).2.1 J (fun U J => ?_) rfl
  refine x_m J rfl fun U J => ?_
  refine wn (hK129 _ _ ?_)
  refine wp_block_k fun Kx181 hKx181 => ?_
  have hb2 : ∀ (l182 : (List Int)), event_Lay_b2 a0 l182 = some y → ∀ (A183 : Option Addr) (n184 : Nat) (c185 : Nat) (U : Act) (w : World), FR 72 [] U [(0, .slice A0 n0 c0), (12, .slice A183 n184 c185)] → SH r (own (kI .u8) 5 A0 n0 c0 a0 :: own (kI .u8) 5 A183 n184 c185 l182 :: zone Z173 wz174 :: L) w → Kx181 U w := by
   intro l182 G A183 n184 c185 U w J X
   unfold event_Lay_b2 at G
   refine hKx181 _ _ ?_
   refine hK128 _ _ ?_
   refine ws fun K186 hK186 => ?_
   refine x_m J rfl fun U J => ?_
   refine x_m J rfl fun U J => ?_
   obtain ⟨y187, h188, G⟩ := bnd G
   refine x_call' en30 J (F_page_Lay (L := own (kI .u8) 5 A183 n184 c185 l182 :: zone Z173 wz174 :: L) a0 101 l182 A0 n0 c0 A183 n184 c185 h188 1 rfl (RdL.own 0 rfl (X.dropN 1)) (Imm.sub hG0 (Sub.trans (Sub.trans (Sub.trans (Sub.trans sb16723 sb16727) sb16732) sb16738) sb16745)) X) (fun v U w hR J => ?_) rfl
   obtain ⟨B189, m190, d191, rfl, X⟩ := hR
   refine x_m J rfl fun U J => ?_
   refine wn (hK186 _ _ ?_)
   refine wp_ret ?_
   replace X := X.drop 1 |>.pk 1 |>.pk 1
   cases G
   refine hQ _ _ ?_
   refine lv Tryd.results26 J rfl ?_
   exact ⟨Z173, wz174, B189, m190, d191, rfl, (Sub.trans (Sub.trans (Sub.trans (Sub.trans sb16723 sb16727) sb16732) sb16738) sb16745), X⟩
  obtain ⟨t192, hl192, G⟩ := bnd G
  have hx192_2 : ∀ (l193 : (List Int)), (l193) = t192 → ∀ (A194 : Option Addr) (n195 : Nat) (c192 : Nat) (U : Act) (w : World), FR 72 [] U [(0, .slice A0 n0 c0), (12, .slice A194 n195 c192)] → SH r (own (kI .u8) 5 A0 n0 c0 a0 :: own (kI .u8) 5 A194 n195 c192 l193 :: zone Z173 wz174 :: L) w → Kx181 U w := by
   intro l193 ht A194 n195 c192 U w J X
   subst ht
   replace G : event_Lay_x1_2 a0 l193 = some y := G
   unfold event_Lay_x1_2 at G
   exact hb2 l193 G A194 n195 c192 U w (J.sub _ rfl) X
  replace X := SH.nil_own (d := (kI .u8)) (e := 5) X
  replace X := X.drop 4 |>.drop 4 |>.drop 4 |>.drop 4 |>.drop 4 |>.pk 2 |>.pk 2 |>.pk 2 |>.pk 3
  refine wp_loop_fn hl192 (fun s U w => ∃ (A196 : Option Addr) (n197 : Nat) (c198 : Nat), FR 72 [] U [(0, .slice A0 n0 c0), (12, .slice A196 n197 c198), (58, .slice (some ⟨g180, 0, none⟩) 5 5), (59, .int .i64 ([y130, y135, y140, y145, y150].length : Int)), (60, .int .i64 s.2)] ∧ SH r (own (kI .u8) 5 A0 n0 c0 a0 :: own (kI .u8) 5 A196 n197 c198 s.1 :: own (kM Z173 wz174 (kI .u8)) 24 (some ⟨g180, 0, none⟩) 5 5 [y130, y135, y140, y145, y150] :: zone Z173 wz174 :: L) w) ⟨none, 0, 0, J.sub _ rfl, X⟩ ?_
  intro N192 s192 o192 G N192_ T192_ U w hLab
  obtain ⟨l199, x200⟩ := s192
  replace G : event_Lay_l1 y130 y135 y140 y145 y150 l199 x200 = some o192 := G
  unfold event_Lay_l1 at G
  try dsimp only at hLab
  obtain ⟨A196, n197, c198, J, X⟩ := hLab
  refine ws fun K201 hK201 => ?_
  refine x_v J (r_ltI rfl (J.ev rfl) (J.ev rfl)) rfl fun U J => ?_
  refine wn (hK201 _ _ ?_)
  refine wp_seq_k fun K202 hK202 => ?_
  refine c_if J rfl (fun hb203 => ?_) fun hb203 => ?_
  ·replace G := ift hb203 G
   refine wp_skip ?_
   refine hK202 _ _ ?_
   refine wp_seq_k fun K204 hK204 => ?_
   refine wp_block_k fun Kx205 hKx205 => ?_
   refine ws fun K206 hK206 => ?_
   obtain ⟨x207, h208, G⟩ := bnd G
   refine x_ia' uu96 sz24 (X.rd 2 rfl) h208 J (fun U J => ?_) rfl
   obtain ⟨cs, hV, hc209⟩ := el (X.rd 2 rfl) h208
   obtain ⟨A210, n211, c212, rfl, h213⟩ := hV
   refine x_ld' uu24 (hc209 0 _ rfl) J (fun U J => ?_) rfl
   refine x_m J rfl fun U J => ?_
   refine wn (hK206 _ _ ?_)
   refine wp_reg ?_
   refine x_m J rfl fun U J => ?_
   refine x_m J rfl fun U J => ?_
   refine x_b2s' uu24 uu5 uu9 (X.imm 3 h213 rfl) J (fun U J => ?_) rfl
   replace X := X.pk 1
   obtain ⟨y214, h215, G⟩ := bnd G
   refine x_call' en29 J (F_column_Text (L := own (kI .u8) 5 A0 n0 c0 a0 :: own (kM Z173 wz174 (kI .u8)) 24 (some ⟨g180, 0, none⟩) 5 5 [y130, y135, y140, y145, y150] :: zone Z173 wz174 :: L) l199 (bts x207) A196 n197 c198 h215 X) (fun v U w hR J => ?_) rfl
   obtain ⟨B216, m217, d218, rfl, X⟩ := hR
   refine x_m J rfl fun U J => ?_
   refine wpList_nil ?_
   refine hKx205 _ _ ?_
   refine hK204 _ _ ?_
   refine wp_reg ?_
   obtain ⟨x219, h220, G⟩ := ltt_ G
   refine x_v (v := .int .i64 x219) J (rv_i h220 (r_add rfl (J.ev rfl) (J.ev rfl))) rfl fun U J => ?_
   refine x_m J rfl fun U J => ?_
   refine wpList_nil ?_
   replace X := X.pk 3 |>.pk 3 |>.pk 2 |>.pk 3
   cases G
   exact ⟨_, N192_ _ rfl, B216, m217, d218, J.sub _ rfl, X⟩
  replace G := iff' hb203 G
  refine wp_exit ?_
  replace X := X.drop 2
  cases G
  exact hx192_2 l199 (T192_ _ rfl) A196 n197 c198 U w (J.sub _ rfl) X
 obtain ⟨t221, hl221, G⟩ := bnd G
 have hx221_0 : ∀ (l222 : (List Int)) (l223 : (List Int)) (l224 : (List Int)) (l225 : (List (List UInt8))) (l226 : (List Nat)), (l222, l223, l224, l225, l226) = t221 → ∀ (A227 : Option Addr) (n228 : Nat) (c229 : Nat) (A230 : Option Addr) (n231 : Nat) (c232 : Nat) (A233 : Option Addr) (n234 : Nat) (c235 : Nat) (A236 : Option Addr) (n237 : Nat) (c238 : Nat) (A239 : Option Addr) (n240 : Nat) (c221 : Nat) (U : Act) (w : World), FR 72 [] U [(0, .slice A0 n0 c0), (5, .slice A227 n228 c229), (6, .slice A230 n231 c232), (7, .slice A233 n234 c235), (8, .slice A236 n237 c238), (9, .slice A239 n240 c221)] → SH r (own (kI .u8) 5 A0 n0 c0 a0 :: own (kI .i64) 2 A227 n228 c229 l222 :: own (kI .i64) 2 A230 n231 c232 l223 :: own (kI .i64) 2 A233 n234 c235 l224 :: own kS 9 A236 n237 c238 l225 :: own kF 42 A239 n240 c221 l226 :: zone Z wz :: L) w → Kx106 U w := by
  intro l222 l223 l224 l225 l226 ht A227 n228 c229 A230 n231 c232 A233 n234 c235 A236 n237 c238 A239 n240 c221 U w J X
  subst ht
  replace G : event_Lay_x2_0 a0 l222 l223 l224 l225 l226 = some y := G
  unfold event_Lay_x2_0 at G
  exact hb1 l222 l223 l224 l225 l226 G A227 n228 c229 A230 n231 c232 A233 n234 c235 A236 n237 c238 A239 n240 c221 U w (J.sub _ rfl) X
 replace X := SH.nil_own (d := (kI .i64)) (e := 2) X
 replace X := SH.nil_own (d := (kI .i64)) (e := 2) X
 replace X := SH.nil_own (d := (kI .i64)) (e := 2) X
 replace X := SH.nil_own (d := kS) (e := 9) X
 replace X := SH.nil_own (d := kF) (e := 42) X
 replace X := X.pk 6 |>.pk 1 |>.pk 2 |>.pk 3 |>.pk 4 |>.pk 5 |>.pk 6
 refine wp_loop_fn hl221 (fun s U w => ∃ (A241 : Option Addr) (n242 : Nat) (c243 : Nat) (A244 : Option Addr) (n245 : Nat) (c246 : Nat) (A247 : Option Addr) (n248 : Nat) (c249 : Nat) (A250 : Option Addr) (n251 : Nat) (c252 : Nat) (A253 : Option Addr) (n254 : Nat) (c255 : Nat), FR 72 [] U [(0, .slice A0 n0 c0), (5, .slice A241 n242 c243), (6, .slice A244 n245 c246), (7, .slice A247 n248 c249), (8, .slice A250 n251 c252), (9, .slice A253 n254 c255), (15, .slice A1 n1 c1), (16, .int .i64 (a1.length : Int)), (17, .int .i64 s.2.2.2.2.2)] ∧ SH r (own (kI .u8) 5 A0 n0 c0 a0 :: own (kI .i64) 2 A241 n242 c243 s.1 :: own (kI .i64) 2 A244 n245 c246 s.2.1 :: own (kI .i64) 2 A247 n248 c249 s.2.2.1 :: own kS 9 A250 n251 c252 s.2.2.2.1 :: own kF 42 A253 n254 c255 s.2.2.2.2.1 :: zone Z wz :: L) w) ⟨none, 0, 0, none, 0, 0, none, 0, 0, none, 0, 0, none, 0, 0, J.sub _ rfl, X⟩ ?_
 intro N221 s221 o221 G N221_ T221_ U w hLab
 obtain ⟨l256, l257, l258, l259, l260, x261⟩ := s221
 replace G : event_Lay_l2 a1 l256 l257 l258 l259 l260 x261 = some o221 := G
 unfold event_Lay_l2 at G
 try dsimp only at hLab
 obtain ⟨A241, n242, c243, A244, n245, c246, A247, n248, c249, A250, n251, c252, A253, n254, c255, J, X⟩ := hLab
 refine ws fun K262 hK262 => ?_
 refine x_v J (r_ltI rfl (J.ev rfl) (J.ev rfl)) rfl fun U J => ?_
 refine wn (hK262 _ _ ?_)
 refine wp_seq_k fun K263 hK263 => ?_
 refine c_if J rfl (fun hb264 => ?_) fun hb264 => ?_
 ·replace G := ift hb264 G
  refine wp_skip ?_
  refine hK263 _ _ ?_
  refine wp_seq_k fun K265 hK265 => ?_
  refine wp_block_k fun Kx266 hKx266 => ?_
  have hb3 : ∀ (l267 : (List Int)) (l268 : (List Int)) (l269 : (List Int)) (l270 : (List (List UInt8))) (l271 : (List Nat)), event_Lay_b3 x261 l267 l268 l269 l270 l271 = some o221 → ∀ (A272 : Option Addr) (n273 : Nat) (c274 : Nat) (A275 : Option Addr) (n276 : Nat) (c277 : Nat) (A278 : Option Addr) (n279 : Nat) (c280 : Nat) (A281 : Option Addr) (n282 : Nat) (c283 : Nat) (A284 : Option Addr) (n285 : Nat) (c286 : Nat) (U : Act) (w : World), FR 72 [] U [(0, .slice A0 n0 c0), (5, .slice A272 n273 c274), (6, .slice A275 n276 c277), (7, .slice A278 n279 c280), (8, .slice A281 n282 c283), (9, .slice A284 n285 c286), (15, .slice A1 n1 c1), (16, .int .i64 (a1.length : Int)), (17, .int .i64 x261)] → SH r (own (kI .u8) 5 A0 n0 c0 a0 :: own (kI .i64) 2 A272 n273 c274 l267 :: own (kI .i64) 2 A275 n276 c277 l268 :: own (kI .i64) 2 A278 n279 c280 l269 :: own kS 9 A281 n282 c283 l270 :: own kF 42 A284 n285 c286 l271 :: zone Z wz :: L) w → Kx266 U w := by
   intro l267 l268 l269 l270 l271 G A272 n273 c274 A275 n276 c277 A278 n279 c280 A281 n282 c283 A284 n285 c286 U w J X
   unfold event_Lay_b3 at G
   refine hKx266 _ _ ?_
   refine hK265 _ _ ?_
   refine wp_reg ?_
   obtain ⟨x287, h288, G⟩ := ltt_ G
   refine x_v (v := .int .i64 x287) J (rv_i h288 (r_add rfl (J.ev rfl) (J.ev rfl))) rfl fun U J => ?_
   refine x_m J rfl fun U J => ?_
   refine wpList_nil ?_
   cases G
   exact ⟨_, N221_ _ rfl, A272, n273, c274, A275, n276, c277, A278, n279, c280, A281, n282, c283, A284, n285, c286, J.sub _ rfl, X⟩
  refine ws fun K289 hK289 => ?_
  obtain ⟨x290, h291, G⟩ := bnd G
  refine x_ia' uu22 sz44 (X.imm 6 ha1 rfl) h291 J (fun U J => ?_) rfl
  obtain ⟨cs, hV, hc292⟩ := el (X.imm 6 ha1 rfl) h291
  obtain rfl := hV
  refine x_lda' (cs := [.int .u64 x290.f0, .int .i64 x290.f1, .int .i64 x290.f2, str x290.f3, .float .f64 x290.f4]) uu44 sz44 (fun j u h => by rw [ea_add]; exact hc292 _ _ h) J (fun U J => ?_) rfl
  refine x_alloc' (cs := [.int .u64 0, .int .i64 0, .int .i64 0, str [], .float .f64 0]) zr44 J X (fun g293 U w X J => ?_) rfl
  refine x_stb' 0 sz44 J X rfl (fun  U w X J => ?_) rfl
  refine wn (hK289 _ _ ?_)
  refine wp_seq_k fun K294 hK294 => ?_
  have hj1 : ∀ (l295 : (List Int)), event_Lay_j1 l257 l258 l259 l260 x261 x290 l295 = some o221 → ∀ (A296 : Option Addr) (n297 : Nat) (c298 : Nat) (A299 : Option Addr) (n300 : Nat) (c301 : Nat) (A302 : Option Addr) (n303 : Nat) (c304 : Nat) (U : Act) (w : World), FR 72 [] U [(0, .slice A0 n0 c0), (5, .slice A296 n297 c298), (6, .slice A299 n300 c301), (7, .slice A302 n303 c304), (8, .slice A250 n251 c252), (9, .slice A253 n254 c255), (11, (pP g293)), (15, .slice A1 n1 c1), (16, .int .i64 (a1.length : Int)), (17, .int .i64 x261)] → SH r (blk g293 44 [.int .u64 x290.f0, .int .i64 x290.f1, .int .i64 x290.f2, str x290.f3, .float .f64 x290.f4] :: own (kI .u8) 5 A0 n0 c0 a0 :: own (kI .i64) 2 A296 n297 c298 l295 :: own (kI .i64) 2 A299 n300 c301 (l257 ++ [x290.f1]) :: own (kI .i64) 2 A302 n303 c304 (l258 ++ [x290.f2]) :: own kS 9 A250 n251 c252 l259 :: own kF 42 A253 n254 c255 l260 :: zone Z wz :: L) w → K294 U w := by
   intro l295 G A296 n297 c298 A299 n300 c301 A302 n303 c304 U w J X
   unfold event_Lay_j1 at G
   refine hK294 _ _ ?_
   refine wp_draw [0, 0, 2, 6, 15, 0, 0, 64, 192, 511, 1023, 2047] [3, 4, 8, 9] rfl J X (by kernel_rfl) (by kernel_rfl) (by kernel_rfl) (by kernel_rfl) fun w X => ?_
   refine ⟨[(0, .slice A250 n251 c252), (1, .pointer (some ⟨g293, 3, none⟩)), (2, str x290.f3), (5, .slice A253 n254 c255), (6, .pointer (some ⟨g293, 4, none⟩)), (7, .float .f64 x290.f4)], ?_⟩
   refine dF [0, 1, 2, 5, 6, 7] [3, 8] (by kernel_rfl) ⟨pm rfl, pt [(11, (pP g293))] rfl (fun U J => y_fab fa44_3 J rfl rfl), pt [(38, .pointer (some ⟨g293, 3, none⟩))] rfl (fun U J => y_ld uu9 (X.cell 0 rfl 3 _ rfl) J rfl rfl rfl), pm rfl, pt [(11, (pP g293))] rfl (fun U J => y_fab fa44_4 J rfl rfl), pt [(43, .pointer (some ⟨g293, 4, none⟩))] rfl (fun U J => y_ld uu42 (X.cell 0 rfl 4 _ rfl) J rfl rfl rfl), trivial⟩ ⟨?_, ?_, trivial⟩
   ·refine et [(39, str x290.f3)] rfl (fun U J K hK => ?_)
    refine z_bsl' (d := kS) (e := 9) (ps := #[(0, str x290.f3)]) (cells := [str x290.f3]) (xs := [x290.f3]) (fun w => by kernel_rfl) rfl ⟨[str x290.f3], _, rfl, rfl, rfl⟩ J X (fun g305 w X => ?_) rfl
    refine hK _ [] _ rfl ?_
    refine dF [0, 5, 6, 7] [4, 8] (by kernel_rfl) ⟨pm rfl, pm rfl, pt [(11, (pP g293))] rfl (fun U J => y_fab fa44_4 J rfl rfl), pt [(43, .pointer (some ⟨g293, 4, none⟩))] rfl (fun U J => y_ld uu42 (X.cell 1 rfl 4 _ rfl) J rfl rfl rfl), trivial⟩ ⟨?_, ?_, trivial⟩
    ·refine et [(37, .slice A250 n251 c252), (40, .slice (some ⟨g305, 0, none⟩) 1 1)] rfl (fun U J K hK => ?_)
     obtain ⟨h306, G⟩ := chk_some G
     have hr := X.rd 0 rfl
     refine z_app' 6 inf9 uu91 J X hr.1 hr.2.1 h306 rfl (fun A307 n308 c309 w X => ?_) rfl
     refine hK _ [] _ rfl ?_
     refine dF [5, 6, 7] [8] (by kernel_rfl) ⟨pm rfl, pt [(11, (pP g293))] rfl (fun U J => y_fab fa44_4 J rfl rfl), pt [(43, .pointer (some ⟨g293, 4, none⟩))] rfl (fun U J => y_ld uu42 (X.cell 2 rfl 4 _ rfl) J rfl rfl rfl), trivial⟩ ⟨et [(44, .float .f64 x290.f4)] rfl (fun U J K hK => ?_), trivial⟩
     refine z_bsl' (d := kF) (e := 42) (ps := #[(0, .float .f64 x290.f4)]) (cells := [.float .f64 x290.f4]) (xs := [x290.f4]) (fun w => by kernel_rfl) rfl ⟨[.float .f64 x290.f4], _, rfl, rfl, rfl⟩ J X (fun g310 w X => ?_) rfl
     refine hK _ [] _ rfl ?_
     refine dF [5] [9] (by kernel_rfl) ⟨pm rfl, trivial⟩ ⟨et [(42, .slice A253 n254 c255), (45, .slice (some ⟨g310, 0, none⟩) 1 1)] rfl (fun U J K hK => ?_), trivial⟩
     obtain ⟨h311, G⟩ := chk_some G
     have hr := X.rd 0 rfl
     refine z_app' 8 inf42 uu92 J X hr.1 hr.2.1 h311 rfl (fun A312 n313 c314 w X => ?_) rfl
     refine hK _ [(10, .slice A307 n308 c309), (11, .slice A312 n313 c314)] _ rfl ?_
     refine dEnd [10, 11] (by kernel_rfl) ⟨pm rfl, pm rfl, trivial⟩ ⟨by kernel_rfl, by kernel_rfl⟩ [(0, .slice A0 n0 c0), (5, .slice A296 n297 c298), (6, .slice A299 n300 c301), (7, .slice A302 n303 c304), (8, .slice A307 n308 c309), (9, .slice A312 n313 c314), (15, .slice A1 n1 c1), (16, .int .i64 (a1.length : Int)), (17, .int .i64 x261)] rfl (fun U J => ?_)
     replace X := X.drop 1 |>.drop 2 |>.drop 2 |>.pk 6 |>.pk 1 |>.pk 2 |>.pk 6 |>.pk 6 |>.pk 6 |>.pk 6
     exact hb3 l295 (l257 ++ [x290.f1]) (l258 ++ [x290.f2]) (l259 ++ [x290.f3]) (l260 ++ [x290.f4]) G A296 n297 c298 A299 n300 c301 A302 n303 c304 A307 n308 c309 A312 n313 c314 U w (J.sub _ rfl) X
    ·refine et [(44, .float .f64 x290.f4)] rfl (fun U J K hK => ?_)
     refine z_bsl' (d := kF) (e := 42) (ps := #[(0, .float .f64 x290.f4)]) (cells := [.float .f64 x290.f4]) (xs := [x290.f4]) (fun w => by kernel_rfl) rfl ⟨[.float .f64 x290.f4], _, rfl, rfl, rfl⟩ J X (fun g315 w X => ?_) rfl
     refine hK _ [] _ rfl ?_
     refine dF [0, 5] [4] (by kernel_rfl) ⟨pm rfl, pm rfl, trivial⟩ ⟨et [(37, .slice A250 n251 c252), (40, .slice (some ⟨g305, 0, none⟩) 1 1)] rfl (fun U J K hK => ?_), trivial⟩
     obtain ⟨h316, G⟩ := chk_some G
     have hr := X.rd 1 rfl
     refine z_app' 7 inf9 uu91 J X hr.1 hr.2.1 h316 rfl (fun A317 n318 c319 w X => ?_) rfl
     refine hK _ [] _ rfl ?_
     refine dF [5] [9] (by kernel_rfl) ⟨pm rfl, trivial⟩ ⟨et [(42, .slice A253 n254 c255), (45, .slice (some ⟨g315, 0, none⟩) 1 1)] rfl (fun U J K hK => ?_), trivial⟩
     obtain ⟨h320, G⟩ := chk_some G
     have hr := X.rd 1 rfl
     refine z_app' 8 inf42 uu92 J X hr.1 hr.2.1 h320 rfl (fun A321 n322 c323 w X => ?_) rfl
     refine hK _ [(10, .slice A317 n318 c319), (11, .slice A321 n322 c323)] _ rfl ?_
     refine dEnd [10, 11] (by kernel_rfl) ⟨pm rfl, pm rfl, trivial⟩ ⟨by kernel_rfl, by kernel_rfl⟩ [(0, .slice A0 n0 c0), (5, .slice A296 n297 c298), (6, .slice A299 n300 c301), (7, .slice A302 n303 c304), (8, .slice A317 n318 c319), (9, .slice A321 n322 c323), (15, .slice A1 n1 c1), (16, .int .i64 (a1.length : Int)), (17, .int .i64 x261)] rfl (fun U J => ?_)
     replace X := X.drop 2 |>.drop 2 |>.drop 2 |>.pk 6 |>.pk 1 |>.pk 2 |>.pk 6 |>.pk 6 |>.pk 6 |>.pk 6
     exact hb3 l295 (l257 ++ [x290.f1]) (l258 ++ [x290.f2]) (l259 ++ [x290.f3]) (l260 ++ [x290.f4]) G A296 n297 c298 A299 n300 c301 A302 n303 c304 A317 n318 c319 A321 n322 c323 U w (J.sub _ rfl) X
   ·refine et [(44, .float .f64 x290.f4)] rfl (fun U J K hK => ?_)
    refine z_bsl' (d := kF) (e := 42) (ps := #[(0, .float .f64 x290.f4)]) (cells := [.float .f64 x290.f4]) (xs := [x290.f4]) (fun w => by kernel_rfl) rfl ⟨[.float .f64 x290.f4], _, rfl, rfl, rfl⟩ J X (fun g324 w X => ?_) rfl
    refine hK _ [] _ rfl ?_
    refine dF [0, 1, 2, 5] [3] (by kernel_rfl) ⟨pm rfl, pt [(11, (pP g293))] rfl (fun U J => y_fab fa44_3 J rfl rfl), pt [(38, .pointer (some ⟨g293, 3, none⟩))] rfl (fun U J => y_ld uu9 (X.cell 1 rfl 3 _ rfl) J rfl rfl rfl), pm rfl, trivial⟩ ⟨et [(39, str x290.f3)] rfl (fun U J K hK => ?_), trivial⟩
    refine z_bsl' (d := kS) (e := 9) (ps := #[(0, str x290.f3)]) (cells := [str x290.f3]) (xs := [x290.f3]) (fun w => by kernel_rfl) rfl ⟨[str x290.f3], _, rfl, rfl, rfl⟩ J X (fun g325 w X => ?_) rfl
    refine hK _ [] _ rfl ?_
    refine dF [0, 5] [4] (by kernel_rfl) ⟨pm rfl, pm rfl, trivial⟩ ⟨et [(37, .slice A250 n251 c252), (40, .slice (some ⟨g325, 0, none⟩) 1 1)] rfl (fun U J K hK => ?_), trivial⟩
    obtain ⟨h326, G⟩ := chk_some G
    have hr := X.rd 0 rfl
    refine z_app' 7 inf9 uu91 J X hr.1 hr.2.1 h326 rfl (fun A327 n328 c329 w X => ?_) rfl
    refine hK _ [] _ rfl ?_
    refine dF [5] [9] (by kernel_rfl) ⟨pm rfl, trivial⟩ ⟨et [(42, .slice A253 n254 c255), (45, .slice (some ⟨g324, 0, none⟩) 1 1)] rfl (fun U J K hK => ?_), trivial⟩
    obtain ⟨h330, G⟩ := chk_some G
    have hr := X.rd 2 rfl
    refine z_app' 8 inf42 uu92 J X hr.1 hr.2.1 h330 rfl (fun A331 n332 c333 w X => ?_) rfl
    refine hK _ [(10, .slice A327 n328 c329), (11, .slice A331 n332 c333)] _ rfl ?_
    refine dEnd [10, 11] (by kernel_rfl) ⟨pm rfl, pm rfl, trivial⟩ ⟨by kernel_rfl, by kernel_rfl⟩ [(0, .slice A0 n0 c0), (5, .slice A296 n297 c298), (6, .slice A299 n300 c301), (7, .slice A302 n303 c304), (8, .slice A327 n328 c329), (9, .slice A331 n332 c333), (15, .slice A1 n1 c1), (16, .int .i64 (a1.length : Int)), (17, .int .i64 x261)] rfl (fun U J => ?_)
    replace X := X.drop 2 |>.drop 2 |>.drop 2 |>.pk 6 |>.pk 1 |>.pk 2 |>.pk 6 |>.pk 6 |>.pk 6 |>.pk 6
    exact hb3 l295 (l257 ++ [x290.f1]) (l258 ++ [x290.f2]) (l259 ++ [x290.f3]) (l260 ++ [x290.f4]) G A296 n297 c298 A299 n300 c301 A302 n303 c304 A327 n328 c329 A331 n332 c333 U w (J.sub _ rfl) X
  refine wp_draw [0, 0, 2, 6, 14, 31, 0, 0, 128, 384, 1023, 0, 0, 4096, 12288, 32767, 65535, 131071, 262143] [4, 5, 9, 10, 14, 15] rfl J X (by kernel_rfl) (by kernel_rfl) (by kernel_rfl) (by kernel_rfl) fun w X => ?_
  obtain ⟨x334, h335, G⟩ := ltt_ G
  refine ⟨[(0, .slice A241 n242 c243), (1, (pP g293)), (2, .int .u64 x290.f0), (3, .int .i64 x334), (6, .slice A244 n245 c246), (7, .pointer (some ⟨g293, 1, none⟩)), (8, .int .i64 x290.f1), (11, .slice A247 n248 c249), (12, .pointer (some ⟨g293, 2, none⟩)), (13, .int .i64 x290.f2)], ?_⟩
  refine dF [0, 1, 2, 3, 6, 7, 8, 11, 12, 13] [4, 9, 14] (by kernel_rfl) ⟨pm rfl, pt [(11, (pP g293))] rfl (fun U J => y_fab fa44_0 J rfl rfl), pt [(22, (pP g293))] rfl (fun U J => y_ld uu31 (X.cell 0 rfl 0 _ rfl) J rfl rfl rfl), pt [(23, .int .u64 x290.f0)] rfl (fun U J => (rv_i h335 (r_convI uu31 uu2 rfl (J.ev rfl)) : RunV _ _ _ _ (.int .i64 x334))), pm rfl, pt [(11, (pP g293))] rfl (fun U J => y_fab fa44_1 J rfl rfl), pt [(28, .pointer (some ⟨g293, 1, none⟩))] rfl (fun U J => y_ld uu3 (X.cell 0 rfl 1 _ rfl) J rfl rfl rfl), pm rfl, pt [(11, (pP g293))] rfl (fun U J => y_fab fa44_2 J rfl rfl), pt [(33, .pointer (some ⟨g293, 2, none⟩))] rfl (fun U J => y_ld uu2 (X.cell 0 rfl 2 _ rfl) J rfl rfl rfl), trivial⟩ ⟨?_, ?_, ?_, trivial⟩
  ·refine et [(24, .int .i64 x334)] rfl (fun U J K hK => ?_)
   refine z_bsl' (d := (kI .i64)) (e := 2) (ps := #[(0, .int .i64 x334)]) (cells := [.int .i64 x334]) (xs := [x334]) (fun w => by kernel_rfl) rfl ⟨[.int .i64 x334], _, rfl, rfl, rfl⟩ J X (fun g336 w X => ?_) rfl
   refine hK _ [] _ rfl ?_
   refine dF [0, 6, 7, 8, 11, 12, 13] [5, 9, 14] (by kernel_rfl) ⟨pm rfl, pm rfl, pt [(11, (pP g293))] rfl (fun U J => y_fab fa44_1 J rfl rfl), pt [(28, .pointer (some ⟨g293, 1, none⟩))] rfl (fun U J => y_ld uu3 (X.cell 1 rfl 1 _ rfl) J rfl rfl rfl), pm rfl, pt [(11, (pP g293))] rfl (fun U J => y_fab fa44_2 J rfl rfl), pt [(33, .pointer (some ⟨g293, 2, none⟩))] rfl (fun U J => y_ld uu2 (X.cell 1 rfl 2 _ rfl) J rfl rfl rfl), trivial⟩ ⟨?_, ?_, ?_, trivial⟩
   ·refine et [(21, .slice A241 n242 c243), (25, .slice (some ⟨g336, 0, none⟩) 1 1)] rfl (fun U J K hK => ?_)
    obtain ⟨h337, G⟩ := chk_some G
    have hr := X.rd 0 rfl
    refine z_app' 3 inf2 uu90 J X hr.1 hr.2.1 h337 rfl (fun A338 n339 c340 w X => ?_) rfl
    refine hK _ [] _ rfl ?_
    refine dF [6, 7, 8, 11, 12, 13] [9, 14] (by kernel_rfl) ⟨pm rfl, pt [(11, (pP g293))] rfl (fun U J => y_fab fa44_1 J rfl rfl), pt [(28, .pointer (some ⟨g293, 1, none⟩))] rfl (fun U J => y_ld uu3 (X.cell 2 rfl 1 _ rfl) J rfl rfl rfl), pm rfl, pt [(11, (pP g293))] rfl (fun U J => y_fab fa44_2 J rfl rfl), pt [(33, .pointer (some ⟨g293, 2, none⟩))] rfl (fun U J => y_ld uu2 (X.cell 2 rfl 2 _ rfl) J rfl rfl rfl), trivial⟩ ⟨?_, ?_, trivial⟩
    ·refine et [(29, .int .i64 x290.f1)] rfl (fun U J K hK => ?_)
     refine z_bsl' (d := (kI .i64)) (e := 2) (ps := #[(0, .int .i64 x290.f1)]) (cells := [.int .i64 x290.f1]) (xs := [x290.f1]) (fun w => by kernel_rfl) rfl ⟨[.int .i64 x290.f1], _, rfl, rfl, rfl⟩ J X (fun g341 w X => ?_) rfl
     refine hK _ [] _ rfl ?_
     refine dF [6, 11, 12, 13] [10, 14] (by kernel_rfl) ⟨pm rfl, pm rfl, pt [(11, (pP g293))] rfl (fun U J => y_fab fa44_2 J rfl rfl), pt [(33, .pointer (some ⟨g293, 2, none⟩))] rfl (fun U J => y_ld uu2 (X.cell 3 rfl 2 _ rfl) J rfl rfl rfl), trivial⟩ ⟨?_, ?_, trivial⟩
     ·refine et [(27, .slice A244 n245 c246), (30, .slice (some ⟨g341, 0, none⟩) 1 1)] rfl (fun U J K hK => ?_)
      obtain ⟨h342, G⟩ := chk_some G
      have hr := X.rd 0 rfl
      refine z_app' 5 inf2 uu90 J X hr.1 hr.2.1 h342 rfl (fun A343 n344 c345 w X => ?_) rfl
      refine hK _ [] _ rfl ?_
      refine dF [11, 12, 13] [14] (by kernel_rfl) ⟨pm rfl, pt [(11, (pP g293))] rfl (fun U J => y_fab fa44_2 J rfl rfl), pt [(33, .pointer (some ⟨g293, 2, none⟩))] rfl (fun U J => y_ld uu2 (X.cell 4 rfl 2 _ rfl) J rfl rfl rfl), trivial⟩ ⟨et [(34, .int .i64 x290.f2)] rfl (fun U J K hK => ?_), trivial⟩
      refine z_bsl' (d := (kI .i64)) (e := 2) (ps := #[(0, .int .i64 x290.f2)]) (cells := [.int .i64 x290.f2]) (xs := [x290.f2]) (fun w => by kernel_rfl) rfl ⟨[.int .i64 x290.f2], _, rfl, rfl, rfl⟩ J X (fun g346 w X => ?_) rfl
      refine hK _ [] _ rfl ?_
      refine dF [11] [15] (by kernel_rfl) ⟨pm rfl, trivial⟩ ⟨et [(32, .slice A247 n248 c249), (35, .slice (some ⟨g346, 0, none⟩) 1 1)] rfl (fun U J K hK => ?_), trivial⟩
      obtain ⟨h347, G⟩ := chk_some G
      have hr := X.rd 0 rfl
      refine z_app' 7 inf2 uu90 J X hr.1 hr.2.1 h347 rfl (fun A348 n349 c350 w X => ?_) rfl
      refine hK _ [(16, .slice A338 n339 c340), (17, .slice A343 n344 c345), (18, .slice A348 n349 c350)] _ rfl ?_
      refine dEnd [16, 17, 18] (by kernel_rfl) ⟨pm rfl, pm rfl, pm rfl, trivial⟩ ⟨by kernel_rfl, by kernel_rfl⟩ [(0, .slice A0 n0 c0), (5, .slice A338 n339 c340), (6, .slice A343 n344 c345), (7, .slice A348 n349 c350), (8, .slice A250 n251 c252), (9, .slice A253 n254 c255), (11, (pP g293)), (15, .slice A1 n1 c1), (16, .int .i64 (a1.length : Int)), (17, .int .i64 x261)] rfl (fun U J => ?_)
      replace X := X.drop 1 |>.drop 2 |>.drop 3 |>.pk 7 |>.pk 7 |>.pk 7 |>.pk 3 |>.pk 4 |>.pk 5 |>.pk 7 |>.pk 7
      exact hj1 (l256 ++ [x334]) G A338 n339 c340 A343 n344 c345 A348 n349 c350 U w (J.sub _ rfl) X
     ·refine et [(34, .int .i64 x290.f2)] rfl (fun U J K hK => ?_)
      refine z_bsl' (d := (kI .i64)) (e := 2) (ps := #[(0, .int .i64 x290.f2)]) (cells := [.int .i64 x290.f2]) (xs := [x290.f2]) (fun w => by kernel_rfl) rfl ⟨[.int .i64 x290.f2], _, rfl, rfl, rfl⟩ J X (fun g351 w X => ?_) rfl
      refine hK _ [] _ rfl ?_
      refine dF [6, 11] [10] (by kernel_rfl) ⟨pm rfl, pm rfl, trivial⟩ ⟨et [(27, .slice A244 n245 c246), (30, .slice (some ⟨g341, 0, none⟩) 1 1)] rfl (fun U J K hK => ?_), trivial⟩
      obtain ⟨h352, G⟩ := chk_some G
      have hr := X.rd 1 rfl
      refine z_app' 6 inf2 uu90 J X hr.1 hr.2.1 h352 rfl (fun A353 n354 c355 w X => ?_) rfl
      refine hK _ [] _ rfl ?_
      refine dF [11] [15] (by kernel_rfl) ⟨pm rfl, trivial⟩ ⟨et [(32, .slice A247 n248 c249), (35, .slice (some ⟨g351, 0, none⟩) 1 1)] rfl (fun U J K hK => ?_), trivial⟩
      obtain ⟨h356, G⟩ := chk_some G
      have hr := X.rd 1 rfl
      refine z_app' 7 inf2 uu90 J X hr.1 hr.2.1 h356 rfl (fun A357 n358 c359 w X => ?_) rfl
      refine hK _ [(16, .slice A338 n339 c340), (17, .slice A353 n354 c355), (18, .slice A357 n358 c359)] _ rfl ?_
      refine dEnd [16, 17, 18] (by kernel_rfl) ⟨pm rfl, pm rfl, pm rfl, trivial⟩ ⟨by kernel_rfl, by kernel_rfl⟩ [(0, .slice A0 n0 c0), (5, .slice A338 n339 c340), (6, .slice A353 n354 c355), (7, .slice A357 n358 c359), (8, .slice A250 n251 c252), (9, .slice A253 n254 c255), (11, (pP g293)), (15, .slice A1 n1 c1), (16, .int .i64 (a1.length : Int)), (17, .int .i64 x261)] rfl (fun U J => ?_)
      replace X := X.drop 2 |>.drop 2 |>.drop 3 |>.pk 7 |>.pk 7 |>.pk 7 |>.pk 3 |>.pk 4 |>.pk 5 |>.pk 7 |>.pk 7
      exact hj1 (l256 ++ [x334]) G A338 n339 c340 A353 n354 c355 A357 n358 c359 U w (J.sub _ rfl) X
    ·refine et [(34, .int .i64 x290.f2)] rfl (fun U J K hK => ?_)
     refine z_bsl' (d := (kI .i64)) (e := 2) (ps := #[(0, .int .i64 x290.f2)]) (cells := [.int .i64 x290.f2]) (xs := [x290.f2]) (fun w => by kernel_rfl) rfl ⟨[.int .i64 x290.f2], _, rfl, rfl, rfl⟩ J X (fun g360 w X => ?_) rfl
     refine hK _ [] _ rfl ?_
     refine dF [6, 7, 8, 11] [9] (by kernel_rfl) ⟨pm rfl, pt [(11, (pP g293))] rfl (fun U J => y_fab fa44_1 J rfl rfl), pt [(28, .pointer (some ⟨g293, 1, none⟩))] rfl (fun U J => y_ld uu3 (X.cell 3 rfl 1 _ rfl) J rfl rfl rfl), pm rfl, trivial⟩ ⟨et [(29, .int .i64 x290.f1)] rfl (fun U J K hK => ?_), trivial⟩
     refine z_bsl' (d := (kI .i64)) (e := 2) (ps := #[(0, .int .i64 x290.f1)]) (cells := [.int .i64 x290.f1]) (xs := [x290.f1]) (fun w => by kernel_rfl) rfl ⟨[.int .i64 x290.f1], _, rfl, rfl, rfl⟩ J X (fun g361 w X => ?_) rfl
     refine hK _ [] _ rfl ?_
     refine dF [6, 11] [10] (by kernel_rfl) ⟨pm rfl, pm rfl, trivial⟩ ⟨et [(27, .slice A244 n245 c246), (30, .slice (some ⟨g361, 0, none⟩) 1 1)] rfl (fun U J K hK => ?_), trivial⟩
     obtain ⟨h362, G⟩ := chk_some G
     have hr := X.rd 0 rfl
     refine z_app' 6 inf2 uu90 J X hr.1 hr.2.1 h362 rfl (fun A363 n364 c365 w X => ?_) rfl
     refine hK _ [] _ rfl ?_
     refine dF [11] [15] (by kernel_rfl) ⟨pm rfl, trivial⟩ ⟨et [(32, .slice A247 n248 c249), (35, .slice (some ⟨g360, 0, none⟩) 1 1)] rfl (fun U J K hK => ?_), trivial⟩
     obtain ⟨h366, G⟩ := chk_some G
     have hr := X.rd 2 rfl
     refine z_app' 7 inf2 uu90 J X hr.1 hr.2.1 h366 rfl (fun A367 n368 c369 w X => ?_) rfl
     refine hK _ [(16, .slice A338 n339 c340), (17, .slice A363 n364 c365), (18, .slice A367 n368 c369)] _ rfl ?_
     refine dEnd [16, 17, 18] (by kernel_rfl) ⟨pm rfl, pm rfl, pm rfl, trivial⟩ ⟨by kernel_rfl, by kernel_rfl⟩ [(0, .slice A0 n0 c0), (5, .slice A338 n339 c340), (6, .slice A363 n364 c365), (7, .slice A367 n368 c369), (8, .slice A250 n251 c252), (9, .slice A253 n254 c255), (11, (pP g293)), (15, .slice A1 n1 c1), (16, .int .i64 (a1.length : Int)), (17, .int .i64 x261)] rfl (fun U J => ?_)
     replace X := X.drop 2 |>.drop 2 |>.drop 3 |>.pk 7 |>.pk 7 |>.pk 7 |>.pk 3 |>.pk 4 |>.pk 5 |>.pk 7 |>.pk 7
     exact hj1 (l256 ++ [x334]) G A338 n339 c340 A363 n364 c365 A367 n368 c369 U w (J.sub _ rfl) X
   ·refine et [(29, .int .i64 x290.f1)] rfl (fun U J K hK => ?_)
    refine z_bsl' (d := (kI .i64)) (e := 2) (ps := #[(0, .int .i64 x290.f1)]) (cells := [.int .i64 x290.f1]) (xs := [x290.f1]) (fun w => by kernel_rfl) rfl ⟨[.int .i64 x290.f1], _, rfl, rfl, rfl⟩ J X (fun g370 w X => ?_) rfl
    refine hK _ [] _ rfl ?_
    refine dF [0, 6, 11, 12, 13] [5, 14] (by kernel_rfl) ⟨pm rfl, pm rfl, pm rfl, pt [(11, (pP g293))] rfl (fun U J => y_fab fa44_2 J rfl rfl), pt [(33, .pointer (some ⟨g293, 2, none⟩))] rfl (fun U J => y_ld uu2 (X.cell 2 rfl 2 _ rfl) J rfl rfl rfl), trivial⟩ ⟨?_, ?_, trivial⟩
    ·refine et [(21, .slice A241 n242 c243), (25, .slice (some ⟨g336, 0, none⟩) 1 1)] rfl (fun U J K hK => ?_)
     obtain ⟨h371, G⟩ := chk_some G
     have hr := X.rd 1 rfl
     refine z_app' 4 inf2 uu90 J X hr.1 hr.2.1 h371 rfl (fun A372 n373 c374 w X => ?_) rfl
     refine hK _ [] _ rfl ?_
     refine dF [6, 11, 12, 13] [10, 14] (by kernel_rfl) ⟨pm rfl, pm rfl, pt [(11, (pP g293))] rfl (fun U J => y_fab fa44_2 J rfl rfl), pt [(33, .pointer (some ⟨g293, 2, none⟩))] rfl (fun U J => y_ld uu2 (X.cell 3 rfl 2 _ rfl) J rfl rfl rfl), trivial⟩ ⟨?_, ?_, trivial⟩
     ·refine et [(27, .slice A244 n245 c246), (30, .slice (some ⟨g370, 0, none⟩) 1 1)] rfl (fun U J K hK => ?_)
      obtain ⟨h375, G⟩ := chk_some G
      have hr := X.rd 1 rfl
      refine z_app' 5 inf2 uu90 J X hr.1 hr.2.1 h375 rfl (fun A376 n377 c378 w X => ?_) rfl
      refine hK _ [] _ rfl ?_
      refine dF [11, 12, 13] [14] (by kernel_rfl) ⟨pm rfl, pt [(11, (pP g293))] rfl (fun U J => y_fab fa44_2 J rfl rfl), pt [(33, .pointer (some ⟨g293, 2, none⟩))] rfl (fun U J => y_ld uu2 (X.cell 4 rfl 2 _ rfl) J rfl rfl rfl), trivial⟩ ⟨et [(34, .int .i64 x290.f2)] rfl (fun U J K hK => ?_), trivial⟩
      refine z_bsl' (d := (kI .i64)) (e := 2) (ps := #[(0, .int .i64 x290.f2)]) (cells := [.int .i64 x290.f2]) (xs := [x290.f2]) (fun w => by kernel_rfl) rfl ⟨[.int .i64 x290.f2], _, rfl, rfl, rfl⟩ J X (fun g379 w X => ?_) rfl
      refine hK _ [] _ rfl ?_
      refine dF [11] [15] (by kernel_rfl) ⟨pm rfl, trivial⟩ ⟨et [(32, .slice A247 n248 c249), (35, .slice (some ⟨g379, 0, none⟩) 1 1)] rfl (fun U J K hK => ?_), trivial⟩
      obtain ⟨h380, G⟩ := chk_some G
      have hr := X.rd 0 rfl
      refine z_app' 7 inf2 uu90 J X hr.1 hr.2.1 h380 rfl (fun A381 n382 c383 w X => ?_) rfl
      refine hK _ [(16, .slice A372 n373 c374), (17, .slice A376 n377 c378), (18, .slice A381 n382 c383)] _ rfl ?_
      refine dEnd [16, 17, 18] (by kernel_rfl) ⟨pm rfl, pm rfl, pm rfl, trivial⟩ ⟨by kernel_rfl, by kernel_rfl⟩ [(0, .slice A0 n0 c0), (5, .slice A372 n373 c374), (6, .slice A376 n377 c378), (7, .slice A381 n382 c383), (8, .slice A250 n251 c252), (9, .slice A253 n254 c255), (11, (pP g293)), (15, .slice A1 n1 c1), (16, .int .i64 (a1.length : Int)), (17, .int .i64 x261)] rfl (fun U J => ?_)
      replace X := X.drop 1 |>.drop 3 |>.drop 3 |>.pk 7 |>.pk 7 |>.pk 7 |>.pk 3 |>.pk 4 |>.pk 5 |>.pk 7 |>.pk 7
      exact hj1 (l256 ++ [x334]) G A372 n373 c374 A376 n377 c378 A381 n382 c383 U w (J.sub _ rfl) X
     ·refine et [(34, .int .i64 x290.f2)] rfl (fun U J K hK => ?_)
      refine z_bsl' (d := (kI .i64)) (e := 2) (ps := #[(0, .int .i64 x290.f2)]) (cells := [.int .i64 x290.f2]) (xs := [x290.f2]) (fun w => by kernel_rfl) rfl ⟨[.int .i64 x290.f2], _, rfl, rfl, rfl⟩ J X (fun g384 w X => ?_) rfl
      refine hK _ [] _ rfl ?_
      refine dF [6, 11] [10] (by kernel_rfl) ⟨pm rfl, pm rfl, trivial⟩ ⟨et [(27, .slice A244 n245 c246), (30, .slice (some ⟨g370, 0, none⟩) 1 1)] rfl (fun U J K hK => ?_), trivial⟩
      obtain ⟨h385, G⟩ := chk_some G
      have hr := X.rd 2 rfl
      refine z_app' 6 inf2 uu90 J X hr.1 hr.2.1 h385 rfl (fun A386 n387 c388 w X => ?_) rfl
      refine hK _ [] _ rfl ?_
      refine dF [11] [15] (by kernel_rfl) ⟨pm rfl, trivial⟩ ⟨et [(32, .slice A247 n248 c249), (35, .slice (some ⟨g384, 0, none⟩) 1 1)] rfl (fun U J K hK => ?_), trivial⟩
      obtain ⟨h389, G⟩ := chk_some G
      have hr := X.rd 1 rfl
      refine z_app' 7 inf2 uu90 J X hr.1 hr.2.1 h389 rfl (fun A390 n391 c392 w X => ?_) rfl
      refine hK _ [(16, .slice A372 n373 c374), (17, .slice A386 n387 c388), (18, .slice A390 n391 c392)] _ rfl ?_
      refine dEnd [16, 17, 18] (by kernel_rfl) ⟨pm rfl, pm rfl, pm rfl, trivial⟩ ⟨by kernel_rfl, by kernel_rfl⟩ [(0, .slice A0 n0 c0), (5, .slice A372 n373 c374), (6, .slice A386 n387 c388), (7, .slice A390 n391 c392), (8, .slice A250 n251 c252), (9, .slice A253 n254 c255), (11, (pP g293)), (15, .slice A1 n1 c1), (16, .int .i64 (a1.length : Int)), (17, .int .i64 x261)] rfl (fun U J => ?_)
      replace X := X.drop 2 |>.drop 3 |>.drop 3 |>.pk 7 |>.pk 7 |>.pk 7 |>.pk 3 |>.pk 4 |>.pk 5 |>.pk 7 |>.pk 7
      exact hj1 (l256 ++ [x334]) G A372 n373 c374 A386 n387 c388 A390 n391 c392 U w (J.sub _ rfl) X
    ·refine et [(34, .int .i64 x290.f2)] rfl (fun U J K hK => ?_)
     refine z_bsl' (d := (kI .i64)) (e := 2) (ps := #[(0, .int .i64 x290.f2)]) (cells := [.int .i64 x290.f2]) (xs := [x290.f2]) (fun w => by kernel_rfl) rfl ⟨[.int .i64 x290.f2], _, rfl, rfl, rfl⟩ J X (fun g393 w X => ?_) rfl
     refine hK _ [] _ rfl ?_
     refine dF [0, 6, 11] [5] (by kernel_rfl) ⟨pm rfl, pm rfl, pm rfl, trivial⟩ ⟨et [(21, .slice A241 n242 c243), (25, .slice (some ⟨g336, 0, none⟩) 1 1)] rfl (fun U J K hK => ?_), trivial⟩
     obtain ⟨h394, G⟩ := chk_some G
     have hr := X.rd 2 rfl
     refine z_app' 5 inf2 uu90 J X hr.1 hr.2.1 h394 rfl (fun A395 n396 c397 w X => ?_) rfl
     refine hK _ [] _ rfl ?_
     refine dF [6, 11] [10] (by kernel_rfl) ⟨pm rfl, pm rfl, trivial⟩ ⟨et [(27, .slice A244 n245 c246), (30, .slice (some ⟨g370, 0, none⟩) 1 1)] rfl (fun U J K hK => ?_), trivial⟩
     obtain ⟨h398, G⟩ := chk_some G
     have hr := X.rd 2 rfl
     refine z_app' 6 inf2 uu90 J X hr.1 hr.2.1 h398 rfl (fun A399 n400 c401 w X => ?_) rfl
     refine hK _ [] _ rfl ?_
     refine dF [11] [15] (by kernel_rfl) ⟨pm rfl, trivial⟩ ⟨et [(32, .slice A247 n248 c249), (35, .slice (some ⟨g393, 0, none⟩) 1 1)] rfl (fun U J K hK => ?_), trivial⟩
     obtain ⟨h402, G⟩ := chk_some G
     have hr := X.rd 2 rfl
     refine z_app' 7 inf2 uu90 J X hr.1 hr.2.1 h402 rfl (fun A403 n404 c405 w X => ?_) rfl
     refine hK _ [(16, .slice A395 n396 c397), (17, .slice A399 n400 c401), (18, .slice A403 n404 c405)] _ rfl ?_
     refine dEnd [16, 17, 18] (by kernel_rfl) ⟨pm rfl, pm rfl, pm rfl, trivial⟩ ⟨by kernel_rfl, by kernel_rfl⟩ [(0, .slice A0 n0 c0), (5, .slice A395 n396 c397), (6, .slice A399 n400 c401), (7, .slice A403 n404 c405), (8, .slice A250 n251 c252), (9, .slice A253 n254 c255), (11, (pP g293)), (15, .slice A1 n1 c1), (16, .int .i64 (a1.length : Int)), (17, .int .i64 x261)] rfl (fun U J => ?_)
     replace X := X.drop 3 |>.drop 3 |>.drop 3 |>.pk 7 |>.pk 7 |>.pk 7 |>.pk 3 |>.pk 4 |>.pk 5 |>.pk 7 |>.pk 7
     exact hj1 (l256 ++ [x334]) G A395 n396 c397 A399 n400 c401 A403 n404 c405 U w (J.sub _ rfl) X
   ·refine et [(34, .int .i64 x290.f2)] rfl (fun U J K hK => ?_)
    refine z_bsl' (d := (kI .i64)) (e := 2) (ps := #[(0, .int .i64 x290.f2)]) (cells := [.int .i64 x290.f2]) (xs := [x290.f2]) (fun w => by kernel_rfl) rfl ⟨[.int .i64 x290.f2], _, rfl, rfl, rfl⟩ J X (fun g406 w X => ?_) rfl
    refine hK _ [] _ rfl ?_
    refine dF [0, 6, 7, 8, 11] [5, 9] (by kernel_rfl) ⟨pm rfl, pm rfl, pt [(11, (pP g293))] rfl (fun U J => y_fab fa44_1 J rfl rfl), pt [(28, .pointer (some ⟨g293, 1, none⟩))] rfl (fun U J => y_ld uu3 (X.cell 2 rfl 1 _ rfl) J rfl rfl rfl), pm rfl, trivial⟩ ⟨?_, ?_, trivial⟩
    ·refine et [(21, .slice A241 n242 c243), (25, .slice (some ⟨g336, 0, none⟩) 1 1)] rfl (fun U J K hK => ?_)
     obtain ⟨h407, G⟩ := chk_some G
     have hr := X.rd 1 rfl
     refine z_app' 4 inf2 uu90 J X hr.1 hr.2.1 h407 rfl (fun A408 n409 c410 w X => ?_) rfl
     refine hK _ [] _ rfl ?_
     refine dF [6, 7, 8, 11] [9] (by kernel_rfl) ⟨pm rfl, pt [(11, (pP g293))] rfl (fun U J => y_fab fa44_1 J rfl rfl), pt [(28, .pointer (some ⟨g293, 1, none⟩))] rfl (fun U J => y_ld uu3 (X.cell 3 rfl 1 _ rfl) J rfl rfl rfl), pm rfl, trivial⟩ ⟨et [(29, .int .i64 x290.f1)] rfl (fun U J K hK => ?_), trivial⟩
     refine z_bsl' (d := (kI .i64)) (e := 2) (ps := #[(0, .int .i64 x290.f1)]) (cells := [.int .i64 x290.f1]) (xs := [x290.f1]) (fun w => by kernel_rfl) rfl ⟨[.int .i64 x290.f1], _, rfl, rfl, rfl⟩ J X (fun g411 w X => ?_) rfl
     refine hK _ [] _ rfl ?_
     refine dF [6, 11] [10] (by kernel_rfl) ⟨pm rfl, pm rfl, trivial⟩ ⟨et [(27, .slice A244 n245 c246), (30, .slice (some ⟨g411, 0, none⟩) 1 1)] rfl (fun U J K hK => ?_), trivial⟩
     obtain ⟨h412, G⟩ := chk_some G
     have hr := X.rd 0 rfl
     refine z_app' 6 inf2 uu90 J X hr.1 hr.2.1 h412 rfl (fun A413 n414 c415 w X => ?_) rfl
     refine hK _ [] _ rfl ?_
     refine dF [11] [15] (by kernel_rfl) ⟨pm rfl, trivial⟩ ⟨et [(32, .slice A247 n248 c249), (35, .slice (some ⟨g406, 0, none⟩) 1 1)] rfl (fun U J K hK => ?_), trivial⟩
     obtain ⟨h416, G⟩ := chk_some G
     have hr := X.rd 3 rfl
     refine z_app' 7 inf2 uu90 J X hr.1 hr.2.1 h416 rfl (fun A417 n418 c419 w X => ?_) rfl
     refine hK _ [(16, .slice A408 n409 c410), (17, .slice A413 n414 c415), (18, .slice A417 n418 c419)] _ rfl ?_
     refine dEnd [16, 17, 18] (by kernel_rfl) ⟨pm rfl, pm rfl, pm rfl, trivial⟩ ⟨by kernel_rfl, by kernel_rfl⟩ [(0, .slice A0 n0 c0), (5, .slice A408 n409 c410), (6, .slice A413 n414 c415), (7, .slice A417 n418 c419), (8, .slice A250 n251 c252), (9, .slice A253 n254 c255), (11, (pP g293)), (15, .slice A1 n1 c1), (16, .int .i64 (a1.length : Int)), (17, .int .i64 x261)] rfl (fun U J => ?_)
     replace X := X.drop 2 |>.drop 3 |>.drop 3 |>.pk 7 |>.pk 7 |>.pk 7 |>.pk 3 |>.pk 4 |>.pk 5 |>.pk 7 |>.pk 7
     exact hj1 (l256 ++ [x334]) G A408 n409 c410 A413 n414 c415 A417 n418 c419 U w (J.sub _ rfl) X
    ·refine et [(29, .int .i64 x290.f1)] rfl (fun U J K hK => ?_)
     refine z_bsl' (d := (kI .i64)) (e := 2) (ps := #[(0, .int .i64 x290.f1)]) (cells := [.int .i64 x290.f1]) (xs := [x290.f1]) (fun w => by kernel_rfl) rfl ⟨[.int .i64 x290.f1], _, rfl, rfl, rfl⟩ J X (fun g420 w X => ?_) rfl
     refine hK _ [] _ rfl ?_
     refine dF [0, 6, 11] [5] (by kernel_rfl) ⟨pm rfl, pm rfl, pm rfl, trivial⟩ ⟨et [(21, .slice A241 n242 c243), (25, .slice (some ⟨g336, 0, none⟩) 1 1)] rfl (fun U J K hK => ?_), trivial⟩
     obtain ⟨h421, G⟩ := chk_some G
     have hr := X.rd 2 rfl
     refine z_app' 5 inf2 uu90 J X hr.1 hr.2.1 h421 rfl (fun A422 n423 c424 w X => ?_) rfl
     refine hK _ [] _ rfl ?_
     refine dF [6, 11] [10] (by kernel_rfl) ⟨pm rfl, pm rfl, trivial⟩ ⟨et [(27, .slice A244 n245 c246), (30, .slice (some ⟨g420, 0, none⟩) 1 1)] rfl (fun U J K hK => ?_), trivial⟩
     obtain ⟨h425, G⟩ := chk_some G
     have hr := X.rd 1 rfl
     refine z_app' 6 inf2 uu90 J X hr.1 hr.2.1 h425 rfl (fun A426 n427 c428 w X => ?_) rfl
     refine hK _ [] _ rfl ?_
     refine dF [11] [15] (by kernel_rfl) ⟨pm rfl, trivial⟩ ⟨et [(32, .slice A247 n248 c249), (35, .slice (some ⟨g406, 0, none⟩) 1 1)] rfl (fun U J K hK => ?_), trivial⟩
     obtain ⟨h429, G⟩ := chk_some G
     have hr := X.rd 3 rfl
     refine z_app' 7 inf2 uu90 J X hr.1 hr.2.1 h429 rfl (fun A430 n431 c432 w X => ?_) rfl
     refine hK _ [(16, .slice A422 n423 c424), (17, .slice A426 n427 c428), (18, .slice A430 n431 c432)] _ rfl ?_
     refine dEnd [16, 17, 18] (by kernel_rfl) ⟨pm rfl, pm rfl, pm rfl, trivial⟩ ⟨by kernel_rfl, by kernel_rfl⟩ [(0, .slice A0 n0 c0), (5, .slice A422 n423 c424), (6, .slice A426 n427 c428), (7, .slice A430 n431 c432), (8, .slice A250 n251 c252), (9, .slice A253 n254 c255), (11, (pP g293)), (15, .slice A1 n1 c1), (16, .int .i64 (a1.length : Int)), (17, .int .i64 x261)] rfl (fun U J => ?_)
     replace X := X.drop 3 |>.drop 3 |>.drop 3 |>.pk 7 |>.pk 7 |>.pk 7 |>.pk 3 |>.pk 4 |>.pk 5 |>.pk 7 |>.pk 7
     exact hj1 (l256 ++ [x334]) G A422 n423 c424 A426 n427 c428 A430 n431 c432 U w (J.sub _ rfl) X
  ·refine et [(29, .int .i64 x290.f1)] rfl (fun U J K hK => ?_)
   refine z_bsl' (d := (kI .i64)) (e := 2) (ps := #[(0, .int .i64 x290.f1)]) (cells := [.int .i64 x290.f1]) (xs := [x290.f1]) (fun w => by kernel_rfl) rfl ⟨[.int .i64 x290.f1], _, rfl, rfl, rfl⟩ J X (fun g433 w X => ?_) rfl
   refine hK _ [] _ rfl ?_
   refine dF [0, 1, 2, 3, 6, 11, 12, 13] [4, 14] (by kernel_rfl) ⟨pm rfl, pt [(11, (pP g293))] rfl (fun U J => y_fab fa44_0 J rfl rfl), pt [(22, (pP g293))] rfl (fun U J => y_ld uu31 (X.cell 1 rfl 0 _ rfl) J rfl rfl rfl), pt [(23, .int .u64 x290.f0)] rfl (fun U J => (rv_i h335 (r_convI uu31 uu2 rfl (J.ev rfl)) : RunV _ _ _ _ (.int .i64 x334))), pm rfl, pm rfl, pt [(11, (pP g293))] rfl (fun U J => y_fab fa44_2 J rfl rfl), pt [(33, .pointer (some ⟨g293, 2, none⟩))] rfl (fun U J => y_ld uu2 (X.cell 1 rfl 2 _ rfl) J rfl rfl rfl), trivial⟩ ⟨?_, ?_, trivial⟩
   ·refine et [(24, .int .i64 x334)] rfl (fun U J K hK => ?_)
    refine z_bsl' (d := (kI .i64)) (e := 2) (ps := #[(0, .int .i64 x334)]) (cells := [.int .i64 x334]) (xs := [x334]) (fun w => by kernel_rfl) rfl ⟨[.int .i64 x334], _, rfl, rfl, rfl⟩ J X (fun g434 w X => ?_) rfl
    refine hK _ [] _ rfl ?_
    refine dF [0, 6, 11, 12, 13] [5, 14] (by kernel_rfl) ⟨pm rfl, pm rfl, pm rfl, pt [(11, (pP g293))] rfl (fun U J => y_fab fa44_2 J rfl rfl), pt [(33, .pointer (some ⟨g293, 2, none⟩))] rfl (fun U J => y_ld uu2 (X.cell 2 rfl 2 _ rfl) J rfl rfl rfl), trivial⟩ ⟨?_, ?_, trivial⟩
    ·refine et [(21, .slice A241 n242 c243), (25, .slice (some ⟨g434, 0, none⟩) 1 1)] rfl (fun U J K hK => ?_)
     obtain ⟨h435, G⟩ := chk_some G
     have hr := X.rd 0 rfl
     refine z_app' 4 inf2 uu90 J X hr.1 hr.2.1 h435 rfl (fun A436 n437 c438 w X => ?_) rfl
     refine hK _ [] _ rfl ?_
     refine dF [6, 11, 12, 13] [10, 14] (by kernel_rfl) ⟨pm rfl, pm rfl, pt [(11, (pP g293))] rfl (fun U J => y_fab fa44_2 J rfl rfl), pt [(33, .pointer (some ⟨g293, 2, none⟩))] rfl (fun U J => y_ld uu2 (X.cell 3 rfl 2 _ rfl) J rfl rfl rfl), trivial⟩ ⟨?_, ?_, trivial⟩
     ·refine et [(27, .slice A244 n245 c246), (30, .slice (some ⟨g433, 0, none⟩) 1 1)] rfl (fun U J K hK => ?_)
      obtain ⟨h439, G⟩ := chk_some G
      have hr := X.rd 2 rfl
      refine z_app' 5 inf2 uu90 J X hr.1 hr.2.1 h439 rfl (fun A440 n441 c442 w X => ?_) rfl
      refine hK _ [] _ rfl ?_
      refine dF [11, 12, 13] [14] (by kernel_rfl) ⟨pm rfl, pt [(11, (pP g293))] rfl (fun U J => y_fab fa44_2 J rfl rfl), pt [(33, .pointer (some ⟨g293, 2, none⟩))] rfl (fun U J => y_ld uu2 (X.cell 4 rfl 2 _ rfl) J rfl rfl rfl), trivial⟩ ⟨et [(34, .int .i64 x290.f2)] rfl (fun U J K hK => ?_), trivial⟩
      refine z_bsl' (d := (kI .i64)) (e := 2) (ps := #[(0, .int .i64 x290.f2)]) (cells := [.int .i64 x290.f2]) (xs := [x290.f2]) (fun w => by kernel_rfl) rfl ⟨[.int .i64 x290.f2], _, rfl, rfl, rfl⟩ J X (fun g443 w X => ?_) rfl
      refine hK _ [] _ rfl ?_
      refine dF [11] [15] (by kernel_rfl) ⟨pm rfl, trivial⟩ ⟨et [(32, .slice A247 n248 c249), (35, .slice (some ⟨g443, 0, none⟩) 1 1)] rfl (fun U J K hK => ?_), trivial⟩
      obtain ⟨h444, G⟩ := chk_some G
      have hr := X.rd 0 rfl
      refine z_app' 7 inf2 uu90 J X hr.1 hr.2.1 h444 rfl (fun A445 n446 c447 w X => ?_) rfl
      refine hK _ [(16, .slice A436 n437 c438), (17, .slice A440 n441 c442), (18, .slice A445 n446 c447)] _ rfl ?_
      refine dEnd [16, 17, 18] (by kernel_rfl) ⟨pm rfl, pm rfl, pm rfl, trivial⟩ ⟨by kernel_rfl, by kernel_rfl⟩ [(0, .slice A0 n0 c0), (5, .slice A436 n437 c438), (6, .slice A440 n441 c442), (7, .slice A445 n446 c447), (8, .slice A250 n251 c252), (9, .slice A253 n254 c255), (11, (pP g293)), (15, .slice A1 n1 c1), (16, .int .i64 (a1.length : Int)), (17, .int .i64 x261)] rfl (fun U J => ?_)
      replace X := X.drop 1 |>.drop 3 |>.drop 3 |>.pk 7 |>.pk 7 |>.pk 7 |>.pk 3 |>.pk 4 |>.pk 5 |>.pk 7 |>.pk 7
      exact hj1 (l256 ++ [x334]) G A436 n437 c438 A440 n441 c442 A445 n446 c447 U w (J.sub _ rfl) X
     ·refine et [(34, .int .i64 x290.f2)] rfl (fun U J K hK => ?_)
      refine z_bsl' (d := (kI .i64)) (e := 2) (ps := #[(0, .int .i64 x290.f2)]) (cells := [.int .i64 x290.f2]) (xs := [x290.f2]) (fun w => by kernel_rfl) rfl ⟨[.int .i64 x290.f2], _, rfl, rfl, rfl⟩ J X (fun g448 w X => ?_) rfl
      refine hK _ [] _ rfl ?_
      refine dF [6, 11] [10] (by kernel_rfl) ⟨pm rfl, pm rfl, trivial⟩ ⟨et [(27, .slice A244 n245 c246), (30, .slice (some ⟨g433, 0, none⟩) 1 1)] rfl (fun U J K hK => ?_), trivial⟩
      obtain ⟨h449, G⟩ := chk_some G
      have hr := X.rd 3 rfl
      refine z_app' 6 inf2 uu90 J X hr.1 hr.2.1 h449 rfl (fun A450 n451 c452 w X => ?_) rfl
      refine hK _ [] _ rfl ?_
      refine dF [11] [15] (by kernel_rfl) ⟨pm rfl, trivial⟩ ⟨et [(32, .slice A247 n248 c249), (35, .slice (some ⟨g448, 0, none⟩) 1 1)] rfl (fun U J K hK => ?_), trivial⟩
      obtain ⟨h453, G⟩ := chk_some G
      have hr := X.rd 1 rfl
      refine z_app' 7 inf2 uu90 J X hr.1 hr.2.1 h453 rfl (fun A454 n455 c456 w X => ?_) rfl
      refine hK _ [(16, .slice A436 n437 c438), (17, .slice A450 n451 c452), (18, .slice A454 n455 c456)] _ rfl ?_
      refine dEnd [16, 17, 18] (by kernel_rfl) ⟨pm rfl, pm rfl, pm rfl, trivial⟩ ⟨by kernel_rfl, by kernel_rfl⟩ [(0, .slice A0 n0 c0), (5, .slice A436 n437 c438), (6, .slice A450 n451 c452), (7, .slice A454 n455 c456), (8, .slice A250 n251 c252), (9, .slice A253 n254 c255), (11, (pP g293)), (15, .slice A1 n1 c1), (16, .int .i64 (a1.length : Int)), (17, .int .i64 x261)] rfl (fun U J => ?_)
      replace X := X.drop 2 |>.drop 3 |>.drop 3 |>.pk 7 |>.pk 7 |>.pk 7 |>.pk 3 |>.pk 4 |>.pk 5 |>.pk 7 |>.pk 7
      exact hj1 (l256 ++ [x334]) G A436 n437 c438 A450 n451 c452 A454 n455 c456 U w (J.sub _ rfl) X
    ·refine et [(34, .int .i64 x290.f2)] rfl (fun U J K hK => ?_)
     refine z_bsl' (d := (kI .i64)) (e := 2) (ps := #[(0, .int .i64 x290.f2)]) (cells := [.int .i64 x290.f2]) (xs := [x290.f2]) (fun w => by kernel_rfl) rfl ⟨[.int .i64 x290.f2], _, rfl, rfl, rfl⟩ J X (fun g457 w X => ?_) rfl
     refine hK _ [] _ rfl ?_
     refine dF [0, 6, 11] [5] (by kernel_rfl) ⟨pm rfl, pm rfl, pm rfl, trivial⟩ ⟨et [(21, .slice A241 n242 c243), (25, .slice (some ⟨g434, 0, none⟩) 1 1)] rfl (fun U J K hK => ?_), trivial⟩
     obtain ⟨h458, G⟩ := chk_some G
     have hr := X.rd 1 rfl
     refine z_app' 5 inf2 uu90 J X hr.1 hr.2.1 h458 rfl (fun A459 n460 c461 w X => ?_) rfl
     refine hK _ [] _ rfl ?_
     refine dF [6, 11] [10] (by kernel_rfl) ⟨pm rfl, pm rfl, trivial⟩ ⟨et [(27, .slice A244 n245 c246), (30, .slice (some ⟨g433, 0, none⟩) 1 1)] rfl (fun U J K hK => ?_), trivial⟩
     obtain ⟨h462, G⟩ := chk_some G
     have hr := X.rd 3 rfl
     refine z_app' 6 inf2 uu90 J X hr.1 hr.2.1 h462 rfl (fun A463 n464 c465 w X => ?_) rfl
     refine hK _ [] _ rfl ?_
     refine dF [11] [15] (by kernel_rfl) ⟨pm rfl, trivial⟩ ⟨et [(32, .slice A247 n248 c249), (35, .slice (some ⟨g457, 0, none⟩) 1 1)] rfl (fun U J K hK => ?_), trivial⟩
     obtain ⟨h466, G⟩ := chk_some G
     have hr := X.rd 2 rfl
     refine z_app' 7 inf2 uu90 J X hr.1 hr.2.1 h466 rfl (fun A467 n468 c469 w X => ?_) rfl
     refine hK _ [(16, .slice A459 n460 c461), (17, .slice A463 n464 c465), (18, .slice A467 n468 c469)] _ rfl ?_
     refine dEnd [16, 17, 18] (by kernel_rfl) ⟨pm rfl, pm rfl, pm rfl, trivial⟩ ⟨by kernel_rfl, by kernel_rfl⟩ [(0, .slice A0 n0 c0), (5, .slice A459 n460 c461), (6, .slice A463 n464 c465), (7, .slice A467 n468 c469), (8, .slice A250 n251 c252), (9, .slice A253 n254 c255), (11, (pP g293)), (15, .slice A1 n1 c1), (16, .int .i64 (a1.length : Int)), (17, .int .i64 x261)] rfl (fun U J => ?_)
     replace X := X.drop 3 |>.drop 3 |>.drop 3 |>.pk 7 |>.pk 7 |>.pk 7 |>.pk 3 |>.pk 4 |>.pk 5 |>.pk 7 |>.pk 7
     exact hj1 (l256 ++ [x334]) G A459 n460 c461 A463 n464 c465 A467 n468 c469 U w (J.sub _ rfl) X
   ·refine et [(34, .int .i64 x290.f2)] rfl (fun U J K hK => ?_)
    refine z_bsl' (d := (kI .i64)) (e := 2) (ps := #[(0, .int .i64 x290.f2)]) (cells := [.int .i64 x290.f2]) (xs := [x290.f2]) (fun w => by kernel_rfl) rfl ⟨[.int .i64 x290.f2], _, rfl, rfl, rfl⟩ J X (fun g470 w X => ?_) rfl
    refine hK _ [] _ rfl ?_
    refine dF [0, 1, 2, 3, 6, 11] [4] (by kernel_rfl) ⟨pm rfl, pt [(11, (pP g293))] rfl (fun U J => y_fab fa44_0 J rfl rfl), pt [(22, (pP g293))] rfl (fun U J => y_ld uu31 (X.cell 2 rfl 0 _ rfl) J rfl rfl rfl), pt [(23, .int .u64 x290.f0)] rfl (fun U J => (rv_i h335 (r_convI uu31 uu2 rfl (J.ev rfl)) : RunV _ _ _ _ (.int .i64 x334))), pm rfl, pm rfl, trivial⟩ ⟨et [(24, .int .i64 x334)] rfl (fun U J K hK => ?_), trivial⟩
    refine z_bsl' (d := (kI .i64)) (e := 2) (ps := #[(0, .int .i64 x334)]) (cells := [.int .i64 x334]) (xs := [x334]) (fun w => by kernel_rfl) rfl ⟨[.int .i64 x334], _, rfl, rfl, rfl⟩ J X (fun g471 w X => ?_) rfl
    refine hK _ [] _ rfl ?_
    refine dF [0, 6, 11] [5] (by kernel_rfl) ⟨pm rfl, pm rfl, pm rfl, trivial⟩ ⟨et [(21, .slice A241 n242 c243), (25, .slice (some ⟨g471, 0, none⟩) 1 1)] rfl (fun U J K hK => ?_), trivial⟩
    obtain ⟨h472, G⟩ := chk_some G
    have hr := X.rd 0 rfl
    refine z_app' 5 inf2 uu90 J X hr.1 hr.2.1 h472 rfl (fun A473 n474 c475 w X => ?_) rfl
    refine hK _ [] _ rfl ?_
    refine dF [6, 11] [10] (by kernel_rfl) ⟨pm rfl, pm rfl, trivial⟩ ⟨et [(27, .slice A244 n245 c246), (30, .slice (some ⟨g433, 0, none⟩) 1 1)] rfl (fun U J K hK => ?_), trivial⟩
    obtain ⟨h476, G⟩ := chk_some G
    have hr := X.rd 3 rfl
    refine z_app' 6 inf2 uu90 J X hr.1 hr.2.1 h476 rfl (fun A477 n478 c479 w X => ?_) rfl
    refine hK _ [] _ rfl ?_
    refine dF [11] [15] (by kernel_rfl) ⟨pm rfl, trivial⟩ ⟨et [(32, .slice A247 n248 c249), (35, .slice (some ⟨g470, 0, none⟩) 1 1)] rfl (fun U J K hK => ?_), trivial⟩
    obtain ⟨h480, G⟩ := chk_some G
    have hr := X.rd 3 rfl
    refine z_app' 7 inf2 uu90 J X hr.1 hr.2.1 h480 rfl (fun A481 n482 c483 w X => ?_) rfl
    refine hK _ [(16, .slice A473 n474 c475), (17, .slice A477 n478 c479), (18, .slice A481 n482 c483)] _ rfl ?_
    refine dEnd [16, 17, 18] (by kernel_rfl) ⟨pm rfl, pm rfl, pm rfl, trivial⟩ ⟨by kernel_rfl, by kernel_rfl⟩ [(0, .slice A0 n0 c0), (5, .slice A473 n474 c475), (6, .slice A477 n478 c479), (7, .slice A481 n482 c483), (8, .slice A250 n251 c252), (9, .slice A253 n254 c255), (11, (pP g293)), (15, .slice A1 n1 c1), (16, .int .i64 (a1.length : Int)), (17, .int .i64 x261)] rfl (fun U J => ?_)
    replace X := X.drop 3 |>.drop 3 |>.drop 3 |>.pk 7 |>.pk 7 |>.pk 7 |>.pk 3 |>.pk 4 |>.pk 5 |>.pk 7 |>.pk 7
    exact hj1 (l256 ++ [x334]) G A473 n474 c475 A477 n478 c479 A481 n482 c483 U w (J.sub _ rfl) X
  ·refine et [(34, .int .i64 x290.f2)] rfl (fun U J K hK => ?_)
   refine z_bsl' (d := (kI .i64)) (e := 2) (ps := #[(0, .int .i64 x290.f2)]) (cells := [.int .i64 x290.f2]) (xs := [x290.f2]) (fun w => by kernel_rfl) rfl ⟨[.int .i64 x290.f2], _, rfl, rfl, rfl⟩ J X (fun g484 w X => ?_) rfl
   refine hK _ [] _ rfl ?_
   refine dF [0, 1, 2, 3, 6, 7, 8, 11] [4, 9] (by kernel_rfl) ⟨pm rfl, pt [(11, (pP g293))] rfl (fun U J => y_fab fa44_0 J rfl rfl), pt [(22, (pP g293))] rfl (fun U J => y_ld uu31 (X.cell 1 rfl 0 _ rfl) J rfl rfl rfl), pt [(23, .int .u64 x290.f0)] rfl (fun U J => (rv_i h335 (r_convI uu31 uu2 rfl (J.ev rfl)) : RunV _ _ _ _ (.int .i64 x334))), pm rfl, pt [(11, (pP g293))] rfl (fun U J => y_fab fa44_1 J rfl rfl), pt [(28, .pointer (some ⟨g293, 1, none⟩))] rfl (fun U J => y_ld uu3 (X.cell 1 rfl 1 _ rfl) J rfl rfl rfl), pm rfl, trivial⟩ ⟨?_, ?_, trivial⟩
   ·refine et [(24, .int .i64 x334)] rfl (fun U J K hK => ?_)
    refine z_bsl' (d := (kI .i64)) (e := 2) (ps := #[(0, .int .i64 x334)]) (cells := [.int .i64 x334]) (xs := [x334]) (fun w => by kernel_rfl) rfl ⟨[.int .i64 x334], _, rfl, rfl, rfl⟩ J X (fun g485 w X => ?_) rfl
    refine hK _ [] _ rfl ?_
    refine dF [0, 6, 7, 8, 11] [5, 9] (by kernel_rfl) ⟨pm rfl, pm rfl, pt [(11, (pP g293))] rfl (fun U J => y_fab fa44_1 J rfl rfl), pt [(28, .pointer (some ⟨g293, 1, none⟩))] rfl (fun U J => y_ld uu3 (X.cell 2 rfl 1 _ rfl) J rfl rfl rfl), pm rfl, trivial⟩ ⟨?_, ?_, trivial⟩
    ·refine et [(21, .slice A241 n242 c243), (25, .slice (some ⟨g485, 0, none⟩) 1 1)] rfl (fun U J K hK => ?_)
     obtain ⟨h486, G⟩ := chk_some G
     have hr := X.rd 0 rfl
     refine z_app' 4 inf2 uu90 J X hr.1 hr.2.1 h486 rfl (fun A487 n488 c489 w X => ?_) rfl
     refine hK _ [] _ rfl ?_
     refine dF [6, 7, 8, 11] [9] (by kernel_rfl) ⟨pm rfl, pt [(11, (pP g293))] rfl (fun U J => y_fab fa44_1 J rfl rfl), pt [(28, .pointer (some ⟨g293, 1, none⟩))] rfl (fun U J => y_ld uu3 (X.cell 3 rfl 1 _ rfl) J rfl rfl rfl), pm rfl, trivial⟩ ⟨et [(29, .int .i64 x290.f1)] rfl (fun U J K hK => ?_), trivial⟩
     refine z_bsl' (d := (kI .i64)) (e := 2) (ps := #[(0, .int .i64 x290.f1)]) (cells := [.int .i64 x290.f1]) (xs := [x290.f1]) (fun w => by kernel_rfl) rfl ⟨[.int .i64 x290.f1], _, rfl, rfl, rfl⟩ J X (fun g490 w X => ?_) rfl
     refine hK _ [] _ rfl ?_
     refine dF [6, 11] [10] (by kernel_rfl) ⟨pm rfl, pm rfl, trivial⟩ ⟨et [(27, .slice A244 n245 c246), (30, .slice (some ⟨g490, 0, none⟩) 1 1)] rfl (fun U J K hK => ?_), trivial⟩
     obtain ⟨h491, G⟩ := chk_some G
     have hr := X.rd 0 rfl
     refine z_app' 6 inf2 uu90 J X hr.1 hr.2.1 h491 rfl (fun A492 n493 c494 w X => ?_) rfl
     refine hK _ [] _ rfl ?_
     refine dF [11] [15] (by kernel_rfl) ⟨pm rfl, trivial⟩ ⟨et [(32, .slice A247 n248 c249), (35, .slice (some ⟨g484, 0, none⟩) 1 1)] rfl (fun U J K hK => ?_), trivial⟩
     obtain ⟨h495, G⟩ := chk_some G
     have hr := X.rd 4 rfl
     refine z_app' 7 inf2 uu90 J X hr.1 hr.2.1 h495 rfl (fun A496 n497 c498 w X => ?_) rfl
     refine hK _ [(16, .slice A487 n488 c489), (17, .slice A492 n493 c494), (18, .slice A496 n497 c498)] _ rfl ?_
     refine dEnd [16, 17, 18] (by kernel_rfl) ⟨pm rfl, pm rfl, pm rfl, trivial⟩ ⟨by kernel_rfl, by kernel_rfl⟩ [(0, .slice A0 n0 c0), (5, .slice A487 n488 c489), (6, .slice A492 n493 c494), (7, .slice A496 n497 c498), (8, .slice A250 n251 c252), (9, .slice A253 n254 c255), (11, (pP g293)), (15, .slice A1 n1 c1), (16, .int .i64 (a1.length : Int)), (17, .int .i64 x261)] rfl (fun U J => ?_)
     replace X := X.drop 2 |>.drop 3 |>.drop 3 |>.pk 7 |>.pk 7 |>.pk 7 |>.pk 3 |>.pk 4 |>.pk 5 |>.pk 7 |>.pk 7
     exact hj1 (l256 ++ [x334]) G A487 n488 c489 A492 n493 c494 A496 n497 c498 U w (J.sub _ rfl) X
    ·refine et [(29, .int .i64 x290.f1)] rfl (fun U J K hK => ?_)
     refine z_bsl' (d := (kI .i64)) (e := 2) (ps := #[(0, .int .i64 x290.f1)]) (cells := [.int .i64 x290.f1]) (xs := [x290.f1]) (fun w => by kernel_rfl) rfl ⟨[.int .i64 x290.f1], _, rfl, rfl, rfl⟩ J X (fun g499 w X => ?_) rfl
     refine hK _ [] _ rfl ?_
     refine dF [0, 6, 11] [5] (by kernel_rfl) ⟨pm rfl, pm rfl, pm rfl, trivial⟩ ⟨et [(21, .slice A241 n242 c243), (25, .slice (some ⟨g485, 0, none⟩) 1 1)] rfl (fun U J K hK => ?_), trivial⟩
     obtain ⟨h500, G⟩ := chk_some G
     have hr := X.rd 1 rfl
     refine z_app' 5 inf2 uu90 J X hr.1 hr.2.1 h500 rfl (fun A501 n502 c503 w X => ?_) rfl
     refine hK _ [] _ rfl ?_
     refine dF [6, 11] [10] (by kernel_rfl) ⟨pm rfl, pm rfl, trivial⟩ ⟨et [(27, .slice A244 n245 c246), (30, .slice (some ⟨g499, 0, none⟩) 1 1)] rfl (fun U J K hK => ?_), trivial⟩
     obtain ⟨h504, G⟩ := chk_some G
     have hr := X.rd 1 rfl
     refine z_app' 6 inf2 uu90 J X hr.1 hr.2.1 h504 rfl (fun A505 n506 c507 w X => ?_) rfl
     refine hK _ [] _ rfl ?_
     refine dF [11] [15] (by kernel_rfl) ⟨pm rfl, trivial⟩ ⟨et [(32, .slice A247 n248 c249), (35, .slice (some ⟨g484, 0, none⟩) 1 1)] rfl (fun U J K hK => ?_), trivial⟩
     obtain ⟨h508, G⟩ := chk_some G
     have hr := X.rd 4 rfl
     refine z_app' 7 inf2 uu90 J X hr.1 hr.2.1 h508 rfl (fun A509 n510 c511 w X => ?_) rfl
     refine hK _ [(16, .slice A501 n502 c503), (17, .slice A505 n506 c507), (18, .slice A509 n510 c511)] _ rfl ?_
     refine dEnd [16, 17, 18] (by kernel_rfl) ⟨pm rfl, pm rfl, pm rfl, trivial⟩ ⟨by kernel_rfl, by kernel_rfl⟩ [(0, .slice A0 n0 c0), (5, .slice A501 n502 c503), (6, .slice A505 n506 c507), (7, .slice A509 n510 c511), (8, .slice A250 n251 c252), (9, .slice A253 n254 c255), (11, (pP g293)), (15, .slice A1 n1 c1), (16, .int .i64 (a1.length : Int)), (17, .int .i64 x261)] rfl (fun U J => ?_)
     replace X := X.drop 3 |>.drop 3 |>.drop 3 |>.pk 7 |>.pk 7 |>.pk 7 |>.pk 3 |>.pk 4 |>.pk 5 |>.pk 7 |>.pk 7
     exact hj1 (l256 ++ [x334]) G A501 n502 c503 A505 n506 c507 A509 n510 c511 U w (J.sub _ rfl) X
   ·refine et [(29, .int .i64 x290.f1)] rfl (fun U J K hK => ?_)
    refine z_bsl' (d := (kI .i64)) (e := 2) (ps := #[(0, .int .i64 x290.f1)]) (cells := [.int .i64 x290.f1]) (xs := [x290.f1]) (fun w => by kernel_rfl) rfl ⟨[.int .i64 x290.f1], _, rfl, rfl, rfl⟩ J X (fun g512 w X => ?_) rfl
    refine hK _ [] _ rfl ?_
    refine dF [0, 1, 2, 3, 6, 11] [4] (by kernel_rfl) ⟨pm rfl, pt [(11, (pP g293))] rfl (fun U J => y_fab fa44_0 J rfl rfl), pt [(22, (pP g293))] rfl (fun U J => y_ld uu31 (X.cell 2 rfl 0 _ rfl) J rfl rfl rfl), pt [(23, .int .u64 x290.f0)] rfl (fun U J => (rv_i h335 (r_convI uu31 uu2 rfl (J.ev rfl)) : RunV _ _ _ _ (.int .i64 x334))), pm rfl, pm rfl, trivial⟩ ⟨et [(24, .int .i64 x334)] rfl (fun U J K hK => ?_), trivial⟩
    refine z_bsl' (d := (kI .i64)) (e := 2) (ps := #[(0, .int .i64 x334)]) (cells := [.int .i64 x334]) (xs := [x334]) (fun w => by kernel_rfl) rfl ⟨[.int .i64 x334], _, rfl, rfl, rfl⟩ J X (fun g513 w X => ?_) rfl
    refine hK _ [] _ rfl ?_
    refine dF [0, 6, 11] [5] (by kernel_rfl) ⟨pm rfl, pm rfl, pm rfl, trivial⟩ ⟨et [(21, .slice A241 n242 c243), (25, .slice (some ⟨g513, 0, none⟩) 1 1)] rfl (fun U J K hK => ?_), trivial⟩
    obtain ⟨h514, G⟩ := chk_some G
    have hr := X.rd 0 rfl
    refine z_app' 5 inf2 uu90 J X hr.1 hr.2.1 h514 rfl (fun A515 n516 c517 w X => ?_) rfl
    refine hK _ [] _ rfl ?_
    refine dF [6, 11] [10] (by kernel_rfl) ⟨pm rfl, pm rfl, trivial⟩ ⟨et [(27, .slice A244 n245 c246), (30, .slice (some ⟨g512, 0, none⟩) 1 1)] rfl (fun U J K hK => ?_), trivial⟩
    obtain ⟨h518, G⟩ := chk_some G
    have hr := X.rd 2 rfl
    refine z_app' 6 inf2 uu90 J X hr.1 hr.2.1 h518 rfl (fun A519 n520 c521 w X => ?_) rfl
    refine hK _ [] _ rfl ?_
    refine dF [11] [15] (by kernel_rfl) ⟨pm rfl, trivial⟩ ⟨et [(32, .slice A247 n248 c249), (35, .slice (some ⟨g484, 0, none⟩) 1 1)] rfl (fun U J K hK => ?_), trivial⟩
    obtain ⟨h522, G⟩ := chk_some G
    have hr := X.rd 4 rfl
    refine z_app' 7 inf2 uu90 J X hr.1 hr.2.1 h522 rfl (fun A523 n524 c525 w X => ?_) rfl
    refine hK _ [(16, .slice A515 n516 c517), (17, .slice A519 n520 c521), (18, .slice A523 n524 c525)] _ rfl ?_
    refine dEnd [16, 17, 18] (by kernel_rfl) ⟨pm rfl, pm rfl, pm rfl, trivial⟩ ⟨by kernel_rfl, by kernel_rfl⟩ [(0, .slice A0 n0 c0), (5, .slice A515 n516 c517), (6, .slice A519 n520 c521), (7, .slice A523 n524 c525), (8, .slice A250 n251 c252), (9, .slice A253 n254 c255), (11, (pP g293)), (15, .slice A1 n1 c1), (16, .int .i64 (a1.length : Int)), (17, .int .i64 x261)] rfl (fun U J => ?_)
    replace X := X.drop 3 |>.drop 3 |>.drop 3 |>.pk 7 |>.pk 7 |>.pk 7 |>.pk 3 |>.pk 4 |>.pk 5 |>.pk 7 |>.pk 7
    exact hj1 (l256 ++ [x334]) G A515 n516 c517 A519 n520 c521 A523 n524 c525 U w (J.sub _ rfl) X
 replace G := iff' hb264 G
 refine wp_exit ?_
 cases G
 exact hx221_0 l256 l257 l258 l259 l260 (T221_ _ rfl) A241 n242 c243 A244 n245 c246 A247 n248 c249 A250 n251 c252 A253 n254 c255 U w (J.sub _ rfl) X
noncomputable section
set_option linter.unusedSimpArgs false
def segment_Filter_Wants (a0 : S33) (a1 : S44) : Option (Bool) :=
  if (decide (a0.f0 ≤ a1.f0)) = true then (if (decide (a1.f0 < a0.f1)) = true then (if (decide (a0.f2 ≤ a1.f2)) = true then (some (decide (a1.f2 ≤ a0.f3))) else (some false)) else (some false)) else (some false)
def segment_Filter_May (a0 : S33) (a1 : S41) : Option (Bool) :=
  if (decide (a0.f0 < a0.f1)) = true then (if (decide (a0.f0 ≤ a1.f3)) = true then (if (decide (a1.f2 < a0.f1)) = true then (if (decide (a0.f2 ≤ a0.f3)) = true then (if (decide (a0.f2 ≤ a1.f5)) = true then (some (decide (a1.f4 ≤ a0.f3))) else (some false)) else (some false)) else (some false)) else (some false)) else (some false)
def segment_chunk_b1 (a0 : (List S44)) (a1 : Int) (x341 : Int) (x342 : Int) (x343 : Int) (x344 : Int) (s345 : (List UInt8)) (s346 : (List UInt8)) : Option (S41) :=
  some (⟨(a0.length : Int), a1, x341, x342, x343, x344, s345, s346⟩ : S41)
def segment_chunk_x1_0 (a0 : (List S44)) (a1 : Int) (x397 : Int) (x398 : Int) (x399 : Int) (x400 : Int) (s401 : (List UInt8)) (s402 : (List UInt8)) : Option (S41) :=
  segment_chunk_b1 a0 a1 x397 x398 x399 x400 s401 s402
def segment_chunk_l1 (a0 : (List S44)) (x369 : Int) (x370 : Int) (x371 : Int) (x372 : Int) (s373 : (List UInt8)) (s374 : (List UInt8)) (x375 : Int) : Option ((Int × Int × Int × Int × (List UInt8) × (List UInt8) × Int) ⊕ ((Int × Int × Int × Int × (List UInt8) × (List UInt8)))) :=
  if (decide (x375 < (a0.length : Int))) = true then ((at_ a0 x375).bind fun x410 => (ltt (IntKind.i64.wrap (x375 + 1)) fun x416 => (some (.inl (if x410.f0 < x369 then x410.f0 else x369, if x370 < x410.f0 then x410.f0 else x370, if x410.f2 < x371 then x410.f2 else x371, if x372 < x410.f2 then x410.f2 else x372, if (Op.bytesLess s373 x410.f3 || s373 == x410.f3) = true then s373 else x410.f3, if Op.bytesLess s374 x410.f3 = true then x410.f3 else s374, x416))))) else (some (.inr (x369, x370, x371, x372, s373, s374)))
def segment_chunk (a0 : (List S44)) (a1 : Int) : Option (S41) :=
  (at_ a0 0).bind fun x104 => ((loop (fun s => segment_chunk_l1 a0 s.1 s.2.1 s.2.2.1 s.2.2.2.1 s.2.2.2.2.1 s.2.2.2.2.2.1 s.2.2.2.2.2.2) (x104.f0, x104.f0, x104.f2, x104.f2, x104.f3, x104.f3, 0)).bind fun t => segment_chunk_x1_0 a0 a1 t.1 t.2.1 t.2.2.1 t.2.2.2.1 t.2.2.2.2.1 t.2.2.2.2.2)
end
end Go.Proofs.YteodeedejjcmgaaDoor.M
