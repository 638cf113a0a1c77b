/- Texts of the claim, joined: what it uses of Msc, Vc, Dsw, Msw, Dso. -/
import Derived.Test.YteodeedejjcmgaaDoorZd
import Derived.Test.YteodeedejjcmgaaDoorProg
import Derived.IntWalk
namespace Go.Proofs.YteodeedejjcmgaaDoor.M
open Go Go.RowKit Go.Proofs.YteodeedejjcmgaaDoor.E
set_option linter.unusedVariables false
set_option maxRecDepth 100000
set_option maxHeartbeats 4000000
set_option linter.unusedSimpArgs false
theorem F_segment_Filter_Wants {r : World} {L : List HP} {w : World} (a0 : S33) (a1 : S44) {y : (Bool)} (hF : segment_Filter_Wants a0 a1 = some y) (hS : SH r (L) w) :
  Ret Tryd.prog 16 #[.agg #[.int .u64 a0.f0, .int .u64 a0.f1, .int .i64 a0.f2, .int .i64 a0.f3], .agg #[.int .u64 a1.f0, .int .i64 a1.f1, .int .i64 a1.f2, str a1.f3, .float .f64 a1.f4]] w fun v w' => v = .bool y ∧ SH r (L) w' := by
 refine enter Tryd.func16 rfl Tryd.ntmps16 [(0, .agg #[.int .u64 a0.f0, .int .u64 a0.f1, .int .i64 a0.f2, .int .i64 a0.f3]), (1, .agg #[.int .u64 a1.f0, .int .i64 a1.f1, .int .i64 a1.f2, str a1.f3, .float .f64 a1.f4])] rfl (by simp) ?_
 intro ac hA Qf hQ hQn
 unfold segment_Filter_Wants at hF
 refine ws fun K101 hK101 => ?_
 refine x_box hA hS (fun g102 ac w hS hA => ?_) rfl rfl rfl rfl rfl rfl
 refine x_box hA hS (fun g103 ac w hS hA => ?_) rfl rfl rfl rfl rfl rfl
 refine x_m hA rfl fun ac hA => ?_
 refine wn (hK101 _ _ ?_)
 refine ws fun K104 hK104 => ?_
 refine x_fab fa44_0 hA (fun ac hA => ?_) rfl rfl rfl rfl rfl
 refine x_ld Tryd.underlying31 (hS.cell 0 rfl 0 _ rfl) hA (fun ac hA => ?_) rfl rfl rfl rfl rfl rfl
 refine x_fab fa33_0 hA (fun ac hA => ?_) rfl rfl rfl rfl rfl
 refine x_ld Tryd.underlying31 (hS.cell 1 rfl 0 _ rfl) hA (fun ac hA => ?_) rfl rfl rfl rfl rfl rfl
 refine x_v hA (r_geI rfl (hA.ev rfl) (hA.ev rfl)) rfl fun ac hA => ?_
 refine x_m hA rfl fun ac hA => ?_
 refine bcase (b := decide (a0.f0 ≤ a1.f0)) (fun hb105 => ?_) fun hb105 => ?_
 ·replace hF := ift hb105 hF
  refine x_on hb105 hA ?_ rfl rfl rfl
  refine x_fab fa44_0 hA (fun ac hA => ?_) rfl rfl rfl rfl rfl
  refine x_on hb105 hA ?_ rfl rfl rfl
  refine x_ld Tryd.underlying31 (hS.cell 0 rfl 0 _ rfl) hA (fun ac hA => ?_) rfl rfl rfl rfl rfl rfl
  refine x_on hb105 hA ?_ rfl rfl rfl
  refine x_fab fa33_1 hA (fun ac hA => ?_) rfl rfl rfl rfl rfl
  refine x_on hb105 hA ?_ rfl rfl rfl
  refine x_ld Tryd.underlying31 (hS.cell 1 rfl 1 _ rfl) hA (fun ac hA => ?_) rfl rfl rfl rfl rfl rfl
  refine x_on hb105 hA ?_ rfl rfl rfl
  refine x_v hA (r_ltI rfl (hA.ev rfl) (hA.ev rfl)) rfl fun ac hA => ?_
  refine x_pickt hb105 hA (fun ac hA => ?_) rfl rfl rfl rfl rfl rfl
  refine x_m hA rfl fun ac hA => ?_
  refine bcase (b := decide (a1.f0 < a0.f1)) (fun hb106 => ?_) fun hb106 => ?_
  ·replace hF := ift hb106 hF
   refine x_on hb106 hA ?_ rfl rfl rfl
   refine x_fab fa44_2 hA (fun ac hA => ?_) rfl rfl rfl rfl rfl
   refine x_on hb106 hA ?_ rfl rfl rfl
   refine x_ld Tryd.underlying2 (hS.cell 0 rfl 2 _ rfl) hA (fun ac hA => ?_) rfl rfl rfl rfl rfl rfl
   refine x_on hb106 hA ?_ rfl rfl rfl
   refine x_fab fa33_2 hA (fun ac hA => ?_) rfl rfl rfl rfl rfl
   refine x_on hb106 hA ?_ rfl rfl rfl
   refine x_ld Tryd.underlying2 (hS.cell 1 rfl 2 _ rfl) hA (fun ac hA => ?_) rfl rfl rfl rfl rfl rfl
   refine x_on hb106 hA ?_ rfl rfl rfl
   refine x_v hA (r_geI rfl (hA.ev rfl) (hA.ev rfl)) rfl fun ac hA => ?_
   refine x_pickt hb106 hA (fun ac hA => ?_) rfl rfl rfl rfl rfl rfl
   refine x_m hA rfl fun ac hA => ?_
   refine bcase (b := decide (a0.f2 ≤ a1.f2)) (fun hb107 => ?_) fun hb107 => ?_
   ·replace hF := ift hb107 hF
    refine x_on hb107 hA ?_ rfl rfl rfl
    refine x_fab fa44_2 hA (fun ac hA => ?_) rfl rfl rfl rfl rfl
    refine x_on hb107 hA ?_ rfl rfl rfl
    refine x_ld Tryd.underlying2 (hS.cell 0 rfl 2 _ rfl) hA (fun ac hA => ?_) rfl rfl rfl rfl rfl rfl
    refine x_on hb107 hA ?_ rfl rfl rfl
    refine x_fab fa33_3 hA (fun ac hA => ?_) rfl rfl rfl rfl rfl
    refine x_on hb107 hA ?_ rfl rfl rfl
    refine x_ld Tryd.underlying2 (hS.cell 1 rfl 3 _ rfl) hA (fun ac hA => ?_) rfl rfl rfl rfl rfl rfl
    refine x_on hb107 hA ?_ rfl rfl rfl
    refine x_v hA (r_leI rfl (hA.ev rfl) (hA.ev rfl)) rfl fun ac hA => ?_
    refine x_pickt hb107 hA (fun ac hA => ?_) rfl rfl rfl rfl rfl rfl
    refine x_m hA rfl fun ac hA => ?_
    refine wn (hK104 _ _ ?_)
    refine wp_ret ?_
    replace hS := hS.drop 0
    replace hS := hS.drop 0
    cases hF
    refine hQ _ _ ?_
    refine lv Tryd.results16 hA rfl ?_
    exact ⟨rfl, hS⟩
   replace hF := iff' hb107 hF
   refine x_off hb107 hA (fun ac hA => ?_) rfl rfl rfl rfl rfl
   refine x_off hb107 hA (fun ac hA => ?_) rfl rfl rfl rfl rfl
   refine x_off hb107 hA (fun ac hA => ?_) rfl rfl rfl rfl rfl
   refine x_off hb107 hA (fun ac hA => ?_) rfl rfl rfl rfl rfl
   refine x_off hb107 hA (fun ac hA => ?_) rfl rfl rfl rfl rfl
   refine x_pickf hb107 hA (fun ac hA => ?_) rfl rfl rfl rfl rfl rfl
   refine x_m hA rfl fun ac hA => ?_
   refine wn (hK104 _ _ ?_)
   refine wp_ret ?_
   replace hS := hS.drop 0
   replace hS := hS.drop 0
   cases hF
   refine hQ _ _ ?_
   refine lv Tryd.results16 hA rfl ?_
   exact ⟨rfl, hS⟩
  replace hF := iff' hb106 hF
  refine x_off hb106 hA (fun ac hA => ?_) rfl rfl rfl rfl rfl
  refine x_off hb106 hA (fun ac hA => ?_) rfl rfl rfl rfl rfl
  refine x_off hb106 hA (fun ac hA => ?_) rfl rfl rfl rfl rfl
  refine x_off hb106 hA (fun ac hA => ?_) rfl rfl rfl rfl rfl
  refine x_off hb106 hA (fun ac hA => ?_) rfl rfl rfl rfl rfl
  refine x_pickf hb106 hA (fun ac hA => ?_) rfl rfl rfl rfl rfl rfl
  refine x_m hA rfl fun ac hA => ?_
  refine x_off rfl hA (fun ac hA => ?_) rfl rfl rfl rfl rfl
  refine x_off rfl hA (fun ac hA => ?_) rfl rfl rfl rfl rfl
  refine x_off rfl hA (fun ac hA => ?_) rfl rfl rfl rfl rfl
  refine x_off rfl hA (fun ac hA => ?_) rfl rfl rfl rfl rfl
  refine x_off rfl hA (fun ac hA => ?_) rfl rfl rfl rfl rfl
  refine x_pickf rfl hA (fun ac hA => ?_) rfl rfl rfl rfl rfl rfl
  refine x_m hA rfl fun ac hA => ?_
  refine wn (hK104 _ _ ?_)
  refine wp_ret ?_
  replace hS := hS.drop 0
  replace hS := hS.drop 0
  cases hF
  refine hQ _ _ ?_
  refine lv Tryd.results16 hA rfl ?_
  exact ⟨rfl, hS⟩
 replace hF := iff' hb105 hF
 refine x_off hb105 hA (fun ac hA => ?_) rfl rfl rfl rfl rfl
 refine x_off hb105 hA (fun ac hA => ?_) rfl rfl rfl rfl rfl
 refine x_off hb105 hA (fun ac hA => ?_) rfl rfl rfl rfl rfl
 refine x_off hb105 hA (fun ac hA => ?_) rfl rfl rfl rfl rfl
 refine x_off hb105 hA (fun ac hA => ?_) rfl rfl rfl rfl rfl
 refine x_pickf hb105 hA (fun ac hA => ?_) rfl rfl rfl rfl rfl rfl
 refine x_m hA rfl fun ac hA => ?_
 refine x_off rfl hA (fun ac hA => ?_) rfl rfl rfl rfl rfl
 refine x_off rfl hA (fun ac hA => ?_) rfl rfl rfl rfl rfl
 refine x_off rfl hA (fun ac hA => ?_) rfl rfl rfl rfl rfl
 refine x_off rfl hA (fun ac hA => ?_) rfl rfl rfl rfl rfl
 refine x_off rfl hA (fun ac hA => ?_) rfl rfl rfl rfl rfl
 refine x_pickf rfl hA (fun ac hA => ?_) rfl rfl rfl rfl rfl rfl
 refine x_m hA rfl fun ac hA => ?_
 refine x_off rfl hA (fun ac hA => ?_) rfl rfl rfl rfl rfl
 refine x_off rfl hA (fun ac hA => ?_) rfl rfl rfl rfl rfl
 refine x_off rfl hA (fun ac hA => ?_) rfl rfl rfl rfl rfl
 refine x_off rfl hA (fun ac hA => ?_) rfl rfl rfl rfl rfl
 refine x_off rfl hA (fun ac hA => ?_) rfl rfl rfl rfl rfl
 refine x_pickf rfl hA (fun ac hA => ?_) rfl rfl rfl rfl rfl rfl
 refine x_m hA rfl fun ac hA => ?_
 refine wn (hK104 _ _ ?_)
 refine wp_ret ?_
 replace hS := hS.drop 0
 replace hS := hS.drop 0
 cases hF
 refine hQ _ _ ?_
 refine lv Tryd.results16 hA rfl ?_
 exact ⟨rfl, hS⟩
theorem F_segment_Filter_May {r : World} {L : List HP} {w : World} (a0 : S33) (a1 : S41) {y : (Bool)} (hF : segment_Filter_May a0 a1 = some y) (hS : SH r (L) w) :
  Ret Tryd.prog 17 #[.agg #[.int .u64 a0.f0, .int .u64 a0.f1, .int .i64 a0.f2, .int .i64 a0.f3], .agg #[.int .i64 a1.f0, .int .i64 a1.f1, .int .u64 a1.f2, .int .u64 a1.f3, .int .i64 a1.f4, .int .i64 a1.f5, str a1.f6, str a1.f7]] w fun v w' => v = .bool y ∧ SH r (L) w' := by
 refine enter Tryd.func17 rfl Tryd.ntmps17 [(0, .agg #[.int .u64 a0.f0, .int .u64 a0.f1, .int .i64 a0.f2, .int .i64 a0.f3]), (1, .agg #[.int .i64 a1.f0, .int .i64 a1.f1, .int .u64 a1.f2, .int .u64 a1.f3, .int .i64 a1.f4, .int .i64 a1.f5, str a1.f6, str a1.f7])] rfl (by simp) ?_
 intro ac hA Qf hQ hQn
 unfold segment_Filter_May at hF
 refine ws fun K101 hK101 => ?_
 refine x_box hA hS (fun g102 ac w hS hA => ?_) rfl rfl rfl rfl rfl rfl
 refine x_box hA hS (fun g103 ac w hS hA => ?_) rfl rfl rfl rfl rfl rfl
 refine x_m hA rfl fun ac hA => ?_
 refine wn (hK101 _ _ ?_)
 refine ws fun K104 hK104 => ?_
 refine x_fab fa33_0 hA (fun ac hA => ?_) rfl rfl rfl rfl rfl
 refine x_ld Tryd.underlying31 (hS.cell 1 rfl 0 _ rfl) hA (fun ac hA => ?_) rfl rfl rfl rfl rfl rfl
 refine x_fab fa33_1 hA (fun ac hA => ?_) rfl rfl rfl rfl rfl
 refine x_ld Tryd.underlying31 (hS.cell 1 rfl 1 _ rfl) hA (fun ac hA => ?_) rfl rfl rfl rfl rfl rfl
 refine x_v hA (r_ltI rfl (hA.ev rfl) (hA.ev rfl)) rfl fun ac hA => ?_
 refine x_m hA rfl fun ac hA => ?_
 refine bcase (b := decide (a0.f0 < a0.f1)) (fun hb105 => ?_) fun hb105 => ?_
 ·replace hF := ift hb105 hF
  refine x_on hb105 hA ?_ rfl rfl rfl
  refine x_fab fa41_3 hA (fun ac hA => ?_) rfl rfl rfl rfl rfl
  refine x_on hb105 hA ?_ rfl rfl rfl
  refine x_ld Tryd.underlying31 (hS.cell 0 rfl 3 _ rfl) hA (fun ac hA => ?_) rfl rfl rfl rfl rfl rfl
  refine x_on hb105 hA ?_ rfl rfl rfl
  refine x_fab fa33_0 hA (fun ac hA => ?_) rfl rfl rfl rfl rfl
  refine x_on hb105 hA ?_ rfl rfl rfl
  refine x_ld Tryd.underlying31 (hS.cell 1 rfl 0 _ rfl) hA (fun ac hA => ?_) rfl rfl rfl rfl rfl rfl
  refine x_on hb105 hA ?_ rfl rfl rfl
  refine x_v hA (r_geI rfl (hA.ev rfl) (hA.ev rfl)) rfl fun ac hA => ?_
  refine x_pickt hb105 hA (fun ac hA => ?_) rfl rfl rfl rfl rfl rfl
  refine x_m hA rfl fun ac hA => ?_
  refine bcase (b := decide (a0.f0 ≤ a1.f3)) (fun hb106 => ?_) fun hb106 => ?_
  ·replace hF := ift hb106 hF
   refine x_on hb106 hA ?_ rfl rfl rfl
   refine x_fab fa41_2 hA (fun ac hA => ?_) rfl rfl rfl rfl rfl
   refine x_on hb106 hA ?_ rfl rfl rfl
   refine x_ld Tryd.underlying31 (hS.cell 0 rfl 2 _ rfl) hA (fun ac hA => ?_) rfl rfl rfl rfl rfl rfl
   refine x_on hb106 hA ?_ rfl rfl rfl
   refine x_fab fa33_1 hA (fun ac hA => ?_) rfl rfl rfl rfl rfl
   refine x_on hb106 hA ?_ rfl rfl rfl
   refine x_ld Tryd.underlying31 (hS.cell 1 rfl 1 _ rfl) hA (fun ac hA => ?_) rfl rfl rfl rfl rfl rfl
   refine x_on hb106 hA ?_ rfl rfl rfl
   refine x_v hA (r_ltI rfl (hA.ev rfl) (hA.ev rfl)) rfl fun ac hA => ?_
   refine x_pickt hb106 hA (fun ac hA => ?_) rfl rfl rfl rfl rfl rfl
   refine x_m hA rfl fun ac hA => ?_
   refine bcase (b := decide (a1.f2 < a0.f1)) (fun hb107 => ?_) fun hb107 => ?_
   ·replace hF := ift hb107 hF
    refine x_on hb107 hA ?_ rfl rfl rfl
    refine x_fab fa33_2 hA (fun ac hA => ?_) rfl rfl rfl rfl rfl
    refine x_on hb107 hA ?_ rfl rfl rfl
    refine x_ld Tryd.underlying2 (hS.cell 1 rfl 2 _ rfl) hA (fun ac hA => ?_) rfl rfl rfl rfl rfl rfl
    refine x_on hb107 hA ?_ rfl rfl rfl
    refine x_fab fa33_3 hA (fun ac hA => ?_) rfl rfl rfl rfl rfl
    refine x_on hb107 hA ?_ rfl rfl rfl
    refine x_ld Tryd.underlying2 (hS.cell 1 rfl 3 _ rfl) hA (fun ac hA => ?_) rfl rfl rfl rfl rfl rfl
    refine x_on hb107 hA ?_ rfl rfl rfl
    refine x_v hA (r_leI rfl (hA.ev rfl) (hA.ev rfl)) rfl fun ac hA => ?_
    refine x_pickt hb107 hA (fun ac hA => ?_) rfl rfl rfl rfl rfl rfl
    refine x_m hA rfl fun ac hA => ?_
    refine bcase (b := decide (a0.f2 ≤ a0.f3)) (fun hb108 => ?_) fun hb108 => ?_
    ·replace hF := ift hb108 hF
     refine x_on hb108 hA ?_ rfl rfl rfl
     refine x_fab fa41_5 hA (fun ac hA => ?_) rfl rfl rfl rfl rfl
     refine x_on hb108 hA ?_ rfl rfl rfl
     refine x_ld Tryd.underlying2 (hS.cell 0 rfl 5 _ rfl) hA (fun ac hA => ?_) rfl rfl rfl rfl rfl rfl
     refine x_on hb108 hA ?_ rfl rfl rfl
     refine x_fab fa33_2 hA (fun ac hA => ?_) rfl rfl rfl rfl rfl
     refine x_on hb108 hA ?_ rfl rfl rfl
     refine x_ld Tryd.underlying2 (hS.cell 1 rfl 2 _ rfl) hA (fun ac hA => ?_) rfl rfl rfl rfl rfl rfl
     refine x_on hb108 hA ?_ rfl rfl rfl
     refine x_v hA (r_geI rfl (hA.ev rfl) (hA.ev rfl)) rfl fun ac hA => ?_
     refine x_pickt hb108 hA (fun ac hA => ?_) rfl rfl rfl rfl rfl rfl
     refine x_m hA rfl fun ac hA => ?_
     refine bcase (b := decide (a0.f2 ≤ a1.f5)) (fun hb109 => ?_) fun hb109 => ?_
     ·replace hF := ift hb109 hF
      refine x_on hb109 hA ?_ rfl rfl rfl
      refine x_fab fa41_4 hA (fun ac hA => ?_) rfl rfl rfl rfl rfl
      refine x_on hb109 hA ?_ rfl rfl rfl
      refine x_ld Tryd.underlying2 (hS.cell 0 rfl 4 _ rfl) hA (fun ac hA => ?_) rfl rfl rfl rfl rfl rfl
      refine x_on hb109 hA ?_ rfl rfl rfl
      refine x_fab fa33_3 hA (fun ac hA => ?_) rfl rfl rfl rfl rfl
      refine x_on hb109 hA ?_ rfl rfl rfl
      refine x_ld Tryd.underlying2 (hS.cell 1 rfl 3 _ rfl) hA (fun ac hA => ?_) rfl rfl rfl rfl rfl rfl
      refine x_on hb109 hA ?_ rfl rfl rfl
      refine x_v hA (r_leI rfl (hA.ev rfl) (hA.ev rfl)) rfl fun ac hA => ?_
      refine x_pickt hb109 hA (fun ac hA => ?_) rfl rfl rfl rfl rfl rfl
      refine x_m hA rfl fun ac hA => ?_
      refine wn (hK104 _ _ ?_)
      refine wp_ret ?_
      replace hS := hS.drop 0
      replace hS := hS.drop 0
      cases hF
      refine hQ _ _ ?_
      refine lv Tryd.results17 hA rfl ?_
      exact ⟨rfl, hS⟩
     replace hF := iff' hb109 hF
     refine x_off hb109 hA (fun ac hA => ?_) rfl rfl rfl rfl rfl
     refine x_off hb109 hA (fun ac hA => ?_) rfl rfl rfl rfl rfl
     refine x_off hb109 hA (fun ac hA => ?_) rfl rfl rfl rfl rfl
     refine x_off hb109 hA (fun ac hA => ?_) rfl rfl rfl rfl rfl
     refine x_off hb109 hA (fun ac hA => ?_) rfl rfl rfl rfl rfl
     refine x_pickf hb109 hA (fun ac hA => ?_) rfl rfl rfl rfl rfl rfl
     refine x_m hA rfl fun ac hA => ?_
     refine wn (hK104 _ _ ?_)
     refine wp_ret ?_
     replace hS := hS.drop 0
     replace hS := hS.drop 0
     cases hF
     refine hQ _ _ ?_
     refine lv Tryd.results17 hA rfl ?_
     exact ⟨rfl, hS⟩
    replace hF := iff' hb108 hF
    refine x_off hb108 hA (fun ac hA => ?_) rfl rfl rfl rfl rfl
    refine x_off hb108 hA (fun ac hA => ?_) rfl rfl rfl rfl rfl
    refine x_off hb108 hA (fun ac hA => ?_) rfl rfl rfl rfl rfl
    refine x_off hb108 hA (fun ac hA => ?_) rfl rfl rfl rfl rfl
    refine x_off hb108 hA (fun ac hA => ?_) rfl rfl rfl rfl rfl
    refine x_pickf hb108 hA (fun ac hA => ?_) rfl rfl rfl rfl rfl rfl
    refine x_m hA rfl fun ac hA => ?_
    refine x_off rfl hA (fun ac hA => ?_) rfl rfl rfl rfl rfl
    refine x_off rfl hA (fun ac hA => ?_) rfl rfl rfl rfl rfl
    refine x_off rfl hA (fun ac hA => ?_) rfl rfl rfl rfl rfl
    refine x_off rfl hA (fun ac hA => ?_) rfl rfl rfl rfl rfl
    refine x_off rfl hA (fun ac hA => ?_) rfl rfl rfl rfl rfl
    refine x_pickf rfl hA (fun ac hA => ?_) rfl rfl rfl rfl rfl rfl
    refine x_m hA rfl fun ac hA => ?_
    refine wn (hK104 _ _ ?_)
    refine wp_ret ?_
    replace hS := hS.drop 0
    replace hS := hS.drop 0
    cases hF
    refine hQ _ _ ?_
    refine lv Tryd.results17 hA rfl ?_
    exact ⟨rfl, hS⟩
   replace hF := iff' hb107 hF
   refine x_off hb107 hA (fun ac hA => ?_) rfl rfl rfl rfl rfl
   refine x_off hb107 hA (fun ac hA => ?_) rfl rfl rfl rfl rfl
   refine x_off hb107 hA (fun ac hA => ?_) rfl rfl rfl rfl rfl
   refine x_off hb107 hA (fun ac hA => ?_) rfl rfl rfl rfl rfl
   refine x_off hb107 hA (fun ac hA => ?_) rfl rfl rfl rfl rfl
   refine x_pickf hb107 hA (fun ac hA => ?_) rfl rfl rfl rfl rfl rfl
   refine x_m hA rfl fun ac hA => ?_
   refine x_off rfl hA (fun ac hA => ?_) rfl rfl rfl rfl rfl
   refine x_off rfl hA (fun ac hA => ?_) rfl rfl rfl rfl rfl
   refine x_off rfl hA (fun ac hA => ?_) rfl rfl rfl rfl rfl
   refine x_off rfl hA (fun ac hA => ?_) rfl rfl rfl rfl rfl
   refine x_off rfl hA (fun ac hA => ?_) rfl rfl rfl rfl rfl
   refine x_pickf rfl hA (fun ac hA => ?_) rfl rfl rfl rfl rfl rfl
   refine x_m hA rfl fun ac hA => ?_
   refine x_off rfl hA (fun ac hA => ?_) rfl rfl rfl rfl rfl
   refine x_off rfl hA (fun ac hA => ?_) rfl rfl rfl rfl rfl
   refine x_off rfl hA (fun ac hA => ?_) rfl rfl rfl rfl rfl
   refine x_off rfl hA (fun ac hA => ?_) rfl rfl rfl rfl rfl
   refine x_off rfl hA (fun ac hA => ?_) rfl rfl rfl rfl rfl
   refine x_pickf rfl hA (fun ac hA => ?_) rfl rfl rfl rfl rfl rfl
   refine x_m hA rfl fun ac hA => ?_
   refine wn (hK104 _ _ ?_)
   refine wp_ret ?_
   replace hS := hS.drop 0
   replace hS := hS.drop 0
   cases hF
   refine hQ _ _ ?_
   refine lv Tryd.results17 hA rfl ?_
   exact ⟨rfl, hS⟩
  replace hF := iff' hb106 hF
  refine x_off hb106 hA (fun ac hA => ?_) rfl rfl rfl rfl rfl
  refine x_off hb106 hA (fun ac hA => ?_) rfl rfl rfl rfl rfl
  refine x_off hb106 hA (fun ac hA => ?_) rfl rfl rfl rfl rfl
  refine x_off hb106 hA (fun ac hA => ?_) rfl rfl rfl rfl rfl
  refine x_off hb106 hA (fun ac hA => ?_) rfl rfl rfl rfl rfl
  refine x_pickf hb106 hA (fun ac hA => ?_) rfl rfl rfl rfl rfl rfl
  refine x_m hA rfl fun ac hA => ?_
  refine x_off rfl hA (fun ac hA => ?_) rfl rfl rfl rfl rfl
  refine x_off rfl hA (fun ac hA => ?_) rfl rfl rfl rfl rfl
  refine x_off rfl hA (fun ac hA => ?_) rfl rfl rfl rfl rfl
  refine x_off rfl hA (fun ac hA => ?_) rfl rfl rfl rfl rfl
  refine x_off rfl hA (fun ac hA => ?_) rfl rfl rfl rfl rfl
  refine x_pickf rfl hA (fun ac hA => ?_) rfl rfl rfl rfl rfl rfl
  refine x_m hA rfl fun ac hA => ?_
  refine x_off rfl hA (fun ac hA => ?_) rfl rfl rfl rfl rfl
  refine x_off rfl hA (fun ac hA => ?_) rfl rfl rfl rfl rfl
  refine x_off rfl hA (fun ac hA => ?_) rfl rfl rfl rfl rfl
  refine x_off rfl hA (fun ac hA => ?_) rfl rfl rfl rfl rfl
  refine x_off rfl hA (fun ac hA => ?_) rfl rfl rfl rfl rfl
  refine x_pickf rfl hA (fun ac hA => ?_) rfl rfl rfl rfl rfl rfl
  refine x_m hA rfl fun ac hA => ?_
  refine x_off rfl hA (fun ac hA => ?_) rfl rfl rfl rfl rfl
  refine x_off rfl hA (fun ac hA => ?_) rfl rfl rfl rfl rfl
  refine x_off rfl hA (fun ac hA => ?_) rfl rfl rfl rfl rfl
  refine x_off rfl hA (fun ac hA => ?_) rfl rfl rfl rfl rfl
  refine x_off rfl hA (fun ac hA => ?_) rfl rfl rfl rfl rfl
  refine x_pickf rfl hA (fun ac hA => ?_) rfl rfl rfl rfl rfl rfl
  refine x_m hA rfl fun ac hA => ?_
  refine wn (hK104 _ _ ?_)
  refine wp_ret ?_
  replace hS := hS.drop 0
  replace hS := hS.drop 0
  cases hF
  refine hQ _ _ ?_
  refine lv Tryd.results17 hA rfl ?_
  exact ⟨rfl, hS⟩
 replace hF := iff' hb105 hF
 refine x_off hb105 hA (fun ac hA => ?_) rfl rfl rfl rfl rfl
 refine x_off hb105 hA (fun ac hA => ?_) rfl rfl rfl rfl rfl
 refine x_off hb105 hA (fun ac hA => ?_) rfl rfl rfl rfl rfl
 refine x_off hb105 hA (fun ac hA => ?_) rfl rfl rfl rfl rfl
 refine x_off hb105 hA (fun ac hA => ?_) rfl rfl rfl rfl rfl
 refine x_pickf hb105 hA (fun ac hA => ?_) rfl rfl rfl rfl rfl rfl
 refine x_m hA rfl fun ac hA => ?_
 refine x_off rfl hA (fun ac hA => ?_) rfl rfl rfl rfl rfl
 refine x_off rfl hA (fun ac hA => ?_) rfl rfl rfl rfl rfl
 refine x_off rfl hA (fun ac hA => ?_) rfl rfl rfl rfl rfl
 refine x_off rfl hA (fun ac hA => ?_) rfl rfl rfl rfl rfl
 refine x_off rfl hA (fun ac hA => ?_) rfl rfl rfl rfl rfl
 refine x_pickf rfl hA (fun ac hA => ?_) rfl rfl rfl rfl rfl rfl
 refine x_m hA rfl fun ac hA => ?_
 refine x_off rfl hA (fun ac hA => ?_) rfl rfl rfl rfl rfl
 refine x_off rfl hA (fun ac hA => ?_) rfl rfl rfl rfl rfl
 refine x_off rfl hA (fun ac hA => ?_) rfl rfl rfl rfl rfl
 refine x_off rfl hA (fun ac hA => ?_) rfl rfl rfl rfl rfl
 refine x_off rfl hA (fun ac hA => ?_) rfl rfl rfl rfl rfl
 refine x_pickf rfl hA (fun ac hA => ?_) rfl rfl rfl rfl rfl rfl
 refine x_m hA rfl fun ac hA => ?_
 refine x_off rfl hA (fun ac hA => ?_) rfl rfl rfl rfl rfl
 refine x_off rfl hA (fun ac hA => ?_) rfl rfl rfl rfl rfl
 refine x_off rfl hA (fun ac hA => ?_) rfl rfl rfl rfl rfl
 refine x_off rfl hA (fun ac hA => ?_) rfl rfl rfl rfl rfl
 refine x_off rfl hA (fun ac hA => ?_) rfl rfl rfl rfl rfl
 refine x_pickf rfl hA (fun ac hA => ?_) rfl rfl rfl rfl rfl rfl
 refine x_m hA rfl fun ac hA => ?_
 refine x_off rfl hA (fun ac hA => ?_) rfl rfl rfl rfl rfl
 refine x_off rfl hA (fun ac hA => ?_) rfl rfl rfl rfl rfl
 refine x_off rfl hA (fun ac hA => ?_) rfl rfl rfl rfl rfl
 refine x_off rfl hA (fun ac hA => ?_) rfl rfl rfl rfl rfl
 refine x_off rfl hA (fun ac hA => ?_) rfl rfl rfl rfl rfl
 refine x_pickf rfl hA (fun ac hA => ?_) rfl rfl rfl rfl rfl rfl
 refine x_m hA rfl fun ac hA => ?_
 refine wn (hK104 _ _ ?_)
 refine wp_ret ?_
 replace hS := hS.drop 0
 replace hS := hS.drop 0
 cases hF
 refine hQ _ _ ?_
 refine lv Tryd.results17 hA rfl ?_
 exact ⟨rfl, hS⟩
theorem F_segment_chunk {r : World} {L : List HP} {w : World} (a0 : (List S44)) (a1 : Int) (A0 : Option Addr) (n0 : Nat) (c0 : Nat) {y : (S41)} (hF : segment_chunk a0 a1 = some y) (ha0 : RdL L k44 A0 n0 c0 a0) (hS : SH r (L) w) :
  Ret Tryd.prog 25 #[.slice A0 n0 c0, .int .i64 a1] w fun v w' => v = .agg #[.int .i64 y.f0, .int .i64 y.f1, .int .u64 y.f2, .int .u64 y.f3, .int .i64 y.f4, .int .i64 y.f5, str y.f6, str y.f7] ∧ SH r (L) w' := by
 refine enter Tryd.func25 rfl Tryd.ntmps25 [(0, .slice A0 n0 c0), (1, .int .i64 a1)] rfl (by simp) ?_
 intro ac hA Qf hQ hQn
 unfold segment_chunk at hF
 refine ws fun K101 hK101 => ?_
 refine x_alloc (cs := [.int .i64 0, .int .i64 0, .int .u64 0, .int .u64 0, .int .i64 0, .int .i64 0, str [], str []]) zr41 hA hS (fun g102 ac w hS hA => ?_) rfl rfl rfl rfl rfl
 refine wn (hK101 _ _ ?_)
 refine wp_seq_k fun K103 hK103 => ?_
 refine wp_draw [0, 1, 0, 0, 8, 24, 56, 0, 128, 384, 896, 0, 2048, 6144, 14336, 0, 32768, 98304, 229376, 0, 524288, 1572864, 3670016, 0, 8388608, 25165824, 58720256, 134217727, 0, 536870911] [28, 29] rfl hA hS (by kernel_rfl) (by kernel_rfl) (by kernel_rfl) (by kernel_rfl) fun w hS => ?_
 obtain ⟨x104, h105, hF⟩ := bnd hF
 obtain ⟨cs, hV, hc106⟩ := el (hS.rdl 1 ha0 rfl) h105
 obtain rfl := hV
 obtain ⟨cs, hV, hc107⟩ := el (hS.rdl 1 ha0 rfl) h105
 obtain rfl := hV
 obtain ⟨cs, hV, hc108⟩ := el (hS.rdl 1 ha0 rfl) h105
 obtain rfl := hV
 obtain ⟨cs, hV, hc109⟩ := el (hS.rdl 1 ha0 rfl) h105
 obtain rfl := hV
 obtain ⟨cs, hV, hc110⟩ := el (hS.rdl 1 ha0 rfl) h105
 obtain rfl := hV
 obtain ⟨cs, hV, hc111⟩ := el (hS.rdl 1 ha0 rfl) h105
 obtain rfl := hV
 refine ⟨[(0, .slice A0 n0 c0), (1, .int .i64 (a0.length : Int)), (2, .int .i64 a1), (3, .slice A0 n0 c0), (4, .pointer (some (ea A0 ((0 : Int).toNat * 5)))), (5, .pointer (some (ea A0 ((0 : Int).toNat * 5)))), (6, .int .u64 x104.f0), (7, .slice A0 n0 c0), (8, .pointer (some (ea A0 ((0 : Int).toNat * 5)))), (9, .pointer (some (ea A0 ((0 : Int).toNat * 5)))), (10, .int .u64 x104.f0), (11, .slice A0 n0 c0), (12, .pointer (some (ea A0 ((0 : Int).toNat * 5)))), (13, .pointer (some (ea A0 ((0 : Int).toNat * 5 + 2)))), (14, .int .i64 x104.f2), (15, .slice A0 n0 c0), (16, .pointer (some (ea A0 ((0 : Int).toNat * 5)))), (17, .pointer (some (ea A0 ((0 : Int).toNat * 5 + 2)))), (18, .int .i64 x104.f2), (19, .slice A0 n0 c0), (20, .pointer (some (ea A0 ((0 : Int).toNat * 5)))), (21, .pointer (some (ea A0 ((0 : Int).toNat * 5 + 3)))), (22, str x104.f3), (23, .slice A0 n0 c0), (24, .pointer (some (ea A0 ((0 : Int).toNat * 5)))), (25, .pointer (some (ea A0 ((0 : Int).toNat * 5 + 3)))), (26, str x104.f3), (27, .agg #[.int .i64 (a0.length : Int), .int .i64 a1, .int .u64 x104.f0, .int .u64 x104.f0, .int .i64 x104.f2, .int .i64 x104.f2, str x104.f3, str x104.f3])], ?_⟩
 refine dEff [0, 1, 2, 3, 4, 5, 6, 7, 8, 9, 10, 11, 12, 13, 14, 15, 16, 17, 18, 19, 20, 21, 22, 23, 24, 25, 26, 27] [28] (by kernel_rfl) ⟨pu rfl rfl [(0, .slice A0 n0 c0)] (fun ac hA => y_move hA rfl rfl) rfl rfl, pu rfl rfl [(8, .slice A0 n0 c0)] (fun ac hA => y_len Tryd.underlying22 (hS.rdl 1 ha0 rfl).2.1 hA rfl rfl) rfl rfl, pu rfl rfl [(1, .int .i64 a1)] (fun ac hA => y_move hA rfl rfl) rfl rfl, pu rfl rfl [(0, .slice A0 n0 c0)] (fun ac hA => y_move hA rfl rfl) rfl rfl, pu rfl rfl [(11, .slice A0 n0 c0)] (fun ac hA => y_ia Tryd.underlying22 sz44 (hS.rdl 1 ha0 rfl) h105 hA rfl rfl rfl) rfl rfl, pu rfl rfl [(12, .pointer (some (ea A0 ((0 : Int).toNat * 5))))] (fun ac hA => y_fae (m := (0 : Int).toNat * 5) fa44_0 hA rfl rfl) rfl rfl, pu rfl rfl [(13, .pointer (some (ea A0 ((0 : Int).toNat * 5))))] (fun ac hA => y_ld Tryd.underlying31 (hc106 0 _ rfl) hA rfl rfl rfl) rfl rfl, pu rfl rfl [(0, .slice A0 n0 c0)] (fun ac hA => y_move hA rfl rfl) rfl rfl, pu rfl rfl [(15, .slice A0 n0 c0)] (fun ac hA => y_ia Tryd.underlying22 sz44 (hS.rdl 1 ha0 rfl) h105 hA rfl rfl rfl) rfl rfl, pu rfl rfl [(16, .pointer (some (ea A0 ((0 : Int).toNat * 5))))] (fun ac hA => y_fae (m := (0 : Int).toNat * 5) fa44_0 hA rfl rfl) rfl rfl, pu rfl rfl [(17, .pointer (some (ea A0 ((0 : Int).toNat * 5))))] (fun ac hA => y_ld Tryd.underlying31 (hc107 0 _ rfl) hA rfl rfl rfl) rfl rfl, pu rfl rfl [(0, .slice A0 n0 c0)] (fun ac hA => y_move hA rfl rfl) rfl rfl, pu rfl rfl [(19, .slice A0 n0 c0)] (fun ac hA => y_ia Tryd.underlying22 sz44 (hS.rdl 1 ha0 rfl) h105 hA rfl rfl rfl) rfl rfl, pu rfl rfl [(20, .pointer (some (ea A0 ((0 : Int).toNat * 5))))] (fun ac hA => y_fae (m := (0 : Int).toNat * 5) fa44_2 hA rfl rfl) rfl rfl, pu rfl rfl [(21, .pointer (some (ea A0 ((0 : Int).toNat * 5 + 2))))] (fun ac hA => y_ld Tryd.underlying2 (hc108 2 _ rfl) hA rfl rfl rfl) rfl rfl, pu rfl rfl [(0, .slice A0 n0 c0)] (fun ac hA => y_move hA rfl rfl) rfl rfl, pu rfl rfl [(23, .slice A0 n0 c0)] (fun ac hA => y_ia Tryd.underlying22 sz44 (hS.rdl 1 ha0 rfl) h105 hA rfl rfl rfl) rfl rfl, pu rfl rfl [(24, .pointer (some (ea A0 ((0 : Int).toNat * 5))))] (fun ac hA => y_fae (m := (0 : Int).toNat * 5) fa44_2 hA rfl rfl) rfl rfl, pu rfl rfl [(25, .pointer (some (ea A0 ((0 : Int).toNat * 5 + 2))))] (fun ac hA => y_ld Tryd.underlying2 (hc109 2 _ rfl) hA rfl rfl rfl) rfl rfl, pu rfl rfl [(0, .slice A0 n0 c0)] (fun ac hA => y_move hA rfl rfl) rfl rfl, pu rfl rfl [(27, .slice A0 n0 c0)] (fun ac hA => y_ia Tryd.underlying22 sz44 (hS.rdl 1 ha0 rfl) h105 hA rfl rfl rfl) rfl rfl, pu rfl rfl [(28, .pointer (some (ea A0 ((0 : Int).toNat * 5))))] (fun ac hA => y_fae (m := (0 : Int).toNat * 5) fa44_3 hA rfl rfl) rfl rfl, pu rfl rfl [(29, .pointer (some (ea A0 ((0 : Int).toNat * 5 + 3))))] (fun ac hA => y_ld Tryd.underlying9 (hc110 3 _ rfl) hA rfl rfl rfl) rfl rfl, pu rfl rfl [(0, .slice A0 n0 c0)] (fun ac hA => y_move hA rfl rfl) rfl rfl, pu rfl rfl [(31, .slice A0 n0 c0)] (fun ac hA => y_ia Tryd.underlying22 sz44 (hS.rdl 1 ha0 rfl) h105 hA rfl rfl rfl) rfl rfl, pu rfl rfl [(32, .pointer (some (ea A0 ((0 : Int).toNat * 5))))] (fun ac hA => y_fae (m := (0 : Int).toNat * 5) fa44_3 hA rfl rfl) rfl rfl, pu rfl rfl [(33, .pointer (some (ea A0 ((0 : Int).toNat * 5 + 3))))] (fun ac hA => y_ld Tryd.underlying9 (hc111 3 _ rfl) hA rfl rfl rfl) rfl rfl, pu rfl rfl [(9, .int .i64 (a0.length : Int)), (10, .int .i64 a1), (14, .int .u64 x104.f0), (18, .int .u64 x104.f0), (22, .int .i64 x104.f2), (26, .int .i64 x104.f2), (30, str x104.f3), (34, str x104.f3)] (fun ac hA => (r_build (ps := #[(0, .int .i64 (a0.length : Int)), (1, .int .i64 a1), (2, .int .u64 x104.f0), (3, .int .u64 x104.f0), (4, .int .i64 x104.f2), (5, .int .i64 x104.f2), (6, str x104.f3), (7, str x104.f3)]) rfl (mapev2 hA rfl) (fun w => by kernel_rfl) : RunV _ _ _ _ (.agg #[.int .i64 (a0.length : Int), .int .i64 a1, .int .u64 x104.f0, .int .u64 x104.f0, .int .i64 x104.f2, .int .i64 x104.f2, str x104.f3, str x104.f3]))) rfl rfl, trivial⟩ (by kernel_rfl) (by kernel_rfl) ⟨ef rfl [] (fun ac hA K hK => ?_) rfl rfl, trivial⟩
 refine z_alloc (cs := [.int .i64 0, .int .i64 0, .int .u64 0, .int .u64 0, .int .i64 0, .int .i64 0, str [], str []]) zr41 hA hS (fun g112 w hS => ?_) rfl rfl
 obtain ⟨cs, hV, hc113⟩ := el (hS.rdl 2 ha0 rfl) h105
 obtain rfl := hV
 obtain ⟨cs, hV, hc114⟩ := el (hS.rdl 2 ha0 rfl) h105
 obtain rfl := hV
 obtain ⟨cs, hV, hc115⟩ := el (hS.rdl 2 ha0 rfl) h105
 obtain rfl := hV
 obtain ⟨cs, hV, hc116⟩ := el (hS.rdl 2 ha0 rfl) h105
 obtain rfl := hV
 obtain ⟨cs, hV, hc117⟩ := el (hS.rdl 2 ha0 rfl) h105
 obtain rfl := hV
 obtain ⟨cs, hV, hc118⟩ := el (hS.rdl 2 ha0 rfl) h105
 obtain rfl := hV
 refine hK _ [] _ rfl ?_
 refine dEff [0, 1, 2, 3, 4, 5, 6, 7, 8, 9, 10, 11, 12, 13, 14, 15, 16, 17, 18, 19, 20, 21, 22, 23, 24, 25, 26, 27] [29] (by kernel_rfl) ⟨pu rfl rfl [(0, .slice A0 n0 c0)] (fun ac hA => y_move hA rfl rfl) rfl rfl, pu rfl rfl [(8, .slice A0 n0 c0)] (fun ac hA => y_len Tryd.underlying22 (hS.rdl 2 ha0 rfl).2.1 hA rfl rfl) rfl rfl, pu rfl rfl [(1, .int .i64 a1)] (fun ac hA => y_move hA rfl rfl) rfl rfl, pu rfl rfl [(0, .slice A0 n0 c0)] (fun ac hA => y_move hA rfl rfl) rfl rfl, pu rfl rfl [(11, .slice A0 n0 c0)] (fun ac hA => y_ia Tryd.underlying22 sz44 (hS.rdl 2 ha0 rfl) h105 hA rfl rfl rfl) rfl rfl, pu rfl rfl [(12, .pointer (some (ea A0 ((0 : Int).toNat * 5))))] (fun ac hA => y_fae (m := (0 : Int).toNat * 5) fa44_0 hA rfl rfl) rfl rfl, pu rfl rfl [(13, .pointer (some (ea A0 ((0 : Int).toNat * 5))))] (fun ac hA => y_ld Tryd.underlying31 (hc113 0 _ rfl) hA rfl rfl rfl) rfl rfl, pu rfl rfl [(0, .slice A0 n0 c0)] (fun ac hA => y_move hA rfl rfl) rfl rfl, pu rfl rfl [(15, .slice A0 n0 c0)] (fun ac hA => y_ia Tryd.underlying22 sz44 (hS.rdl 2 ha0 rfl) h105 hA rfl rfl rfl) rfl rfl, pu rfl rfl [(16, .pointer (some (ea A0 ((0 : Int).toNat * 5))))] (fun ac hA => y_fae (m := (0 : Int).toNat * 5) fa44_0 hA rfl rfl) rfl rfl, pu rfl rfl [(17, .pointer (some (ea A0 ((0 : Int).toNat * 5))))] (fun ac hA => y_ld Tryd.underlying31 (hc114 0 _ rfl) hA rfl rfl rfl) rfl rfl, pu rfl rfl [(0, .slice A0 n0 c0)] (fun ac hA => y_move hA rfl rfl) rfl rfl, pu rfl rfl [(19, .slice A0 n0 c0)] (fun ac hA => y_ia Tryd.underlying22 sz44 (hS.rdl 2 ha0 rfl) h105 hA rfl rfl rfl) rfl rfl, pu rfl rfl [(20, .pointer (some (ea A0 ((0 : Int).toNat * 5))))] (fun ac hA => y_fae (m := (0 : Int).toNat * 5) fa44_2 hA rfl rfl) rfl rfl, pu rfl rfl [(21, .pointer (some (ea A0 ((0 : Int).toNat * 5 + 2))))] (fun ac hA => y_ld Tryd.underlying2 (hc115 2 _ rfl) hA rfl rfl rfl) rfl rfl, pu rfl rfl [(0, .slice A0 n0 c0)] (fun ac hA => y_move hA rfl rfl) rfl rfl, pu rfl rfl [(23, .slice A0 n0 c0)] (fun ac hA => y_ia Tryd.underlying22 sz44 (hS.rdl 2 ha0 rfl) h105 hA rfl rfl rfl) rfl rfl, pu rfl rfl [(24, .pointer (some (ea A0 ((0 : Int).toNat * 5))))] (fun ac hA => y_fae (m := (0 : Int).toNat * 5) fa44_2 hA rfl rfl) rfl rfl, pu rfl rfl [(25, .pointer (some (ea A0 ((0 : Int).toNat * 5 + 2))))] (fun ac hA => y_ld Tryd.underlying2 (hc116 2 _ rfl) hA rfl rfl rfl) rfl rfl, pu rfl rfl [(0, .slice A0 n0 c0)] (fun ac hA => y_move hA rfl rfl) rfl rfl, pu rfl rfl [(27, .slice A0 n0 c0)] (fun ac hA => y_ia Tryd.underlying22 sz44 (hS.rdl 2 ha0 rfl) h105 hA rfl rfl rfl) rfl rfl, pu rfl rfl [(28, .pointer (some (ea A0 ((0 : Int).toNat * 5))))] (fun ac hA => y_fae (m := (0 : Int).toNat * 5) fa44_3 hA rfl rfl) rfl rfl, pu rfl rfl [(29, .pointer (some (ea A0 ((0 : Int).toNat * 5 + 3))))] (fun ac hA => y_ld Tryd.underlying9 (hc117 3 _ rfl) hA rfl rfl rfl) rfl rfl, pu rfl rfl [(0, .slice A0 n0 c0)] (fun ac hA => y_move hA rfl rfl) rfl rfl, pu rfl rfl [(31, .slice A0 n0 c0)] (fun ac hA => y_ia Tryd.underlying22 sz44 (hS.rdl 2 ha0 rfl) h105 hA rfl rfl rfl) rfl rfl, pu rfl rfl [(32, .pointer (some (ea A0 ((0 : Int).toNat * 5))))] (fun ac hA => y_fae (m := (0 : Int).toNat * 5) fa44_3 hA rfl rfl) rfl rfl, pu rfl rfl [(33, .pointer (some (ea A0 ((0 : Int).toNat * 5 + 3))))] (fun ac hA => y_ld Tryd.underlying9 (hc118 3 _ rfl) hA rfl rfl rfl) rfl rfl, pu rfl rfl [(9, .int .i64 (a0.length : Int)), (10, .int .i64 a1), (14, .int .u64 x104.f0), (18, .int .u64 x104.f0), (22, .int .i64 x104.f2), (26, .int .i64 x104.f2), (30, str x104.f3), (34, str x104.f3)] (fun ac hA => (r_build (ps := #[(0, .int .i64 (a0.length : Int)), (1, .int .i64 a1), (2, .int .u64 x104.f0), (3, .int .u64 x104.f0), (4, .int .i64 x104.f2), (5, .int .i64 x104.f2), (6, str x104.f3), (7, str x104.f3)]) rfl (mapev2 hA rfl) (fun w => by kernel_rfl) : RunV _ _ _ _ (.agg #[.int .i64 (a0.length : Int), .int .i64 a1, .int .u64 x104.f0, .int .u64 x104.f0, .int .i64 x104.f2, .int .i64 x104.f2, str x104.f3, str x104.f3]))) rfl rfl, trivial⟩ (by kernel_rfl) (by kernel_rfl) ⟨ef rfl [(5, .pointer (some ⟨g112, 0, none⟩)), (35, .agg #[.int .i64 (a0.length : Int), .int .i64 a1, .int .u64 x104.f0, .int .u64 x104.f0, .int .i64 x104.f2, .int .i64 x104.f2, str x104.f3, str x104.f3])] (fun ac hA K hK => ?_) rfl rfl, trivial⟩
 refine z_stb 0 sz41 hA hS rfl (fun  w hS => ?_) rfl rfl rfl rfl rfl rfl
 refine hK _ [] _ rfl ?_
 refine dEnd [] (by kernel_rfl) trivial ⟨by kernel_rfl, by kernel_rfl⟩ [(0, .slice A0 n0 c0), (4, .pointer (some ⟨g102, 0, none⟩)), (5, .pointer (some ⟨g112, 0, none⟩))] rfl (fun ac hA => ?_)
 refine hK103 _ _ ?_
 refine wp_seq_k fun K119 hK119 => ?_
 refine ws fun K269 hK269 => ?_
 refine x_m hA rfl fun ac hA => ?_
 refine x_len Tryd.underlying22 (hS.rdl 2 ha0 rfl).2.1 hA (fun ac hA => ?_) rfl rfl rfl rfl rfl
 refine x_m hA rfl fun ac hA => ?_
 refine wn (hK269 _ _ ?_)
 refine wp_block_k fun Kx270 hKx270 => ?_
 have hb1 : ∀ (x341 : Int) (x342 : Int) (x343 : Int) (x344 : Int) (s345 : (List UInt8)) (s346 : (List UInt8)), segment_chunk_b1 a0 a1 x341 x342 x343 x344 s345 s346 = some y → ∀ (ac : Act) (w : World), FR 80 [] ac [(4, .pointer (some ⟨g102, 0, none⟩)), (5, .pointer (some ⟨g112, 0, none⟩))] → SH r (blk g102 41 [.int .i64 0, .int .i64 0, .int .u64 0, .int .u64 0, .int .i64 0, .int .i64 0, str [], str []] :: blk g112 41 [.int .i64 (a0.length : Int), .int .i64 a1, .int .u64 x341, .int .u64 x342, .int .i64 x343, .int .i64 x344, str s345, str s346] :: L) w → Kx270 ac w := by
  intro x341 x342 x343 x344 s345 s346 hF ac w hA hS
  unfold segment_chunk_b1 at hF
  refine hKx270 _ _ ?_
  refine hK119 _ _ ?_
  refine ws fun K347 hK347 => ?_
  refine x_lda (ad := ⟨g112, 0, none⟩) (cs := [.int .i64 (a0.length : Int), .int .i64 a1, .int .u64 x341, .int .u64 x342, .int .i64 x343, .int .i64 x344, str s345, str s346]) Tryd.underlying41 sz41 (fun j u h => by rw [add_mk, Nat.zero_add]; exact hS.cell 1 rfl j u h) hA (fun ac hA => ?_) rfl rfl rfl rfl rfl rfl
  refine x_stb 0 sz41 hA hS rfl (fun  ac w hS hA => ?_) rfl rfl rfl rfl rfl rfl rfl rfl
  refine wn (hK347 _ _ ?_)
  refine wp_ret ?_
  have hS0 := hS
  replace hS := hS.drop 0
  replace hS := hS.drop 0
  cases hF
  refine hQ _ _ ?_
  refine lvc1 (cs := [.int .i64 (a0.length : Int), .int .i64 a1, .int .u64 x341, .int .u64 x342, .int .i64 x343, .int .i64 x344, str s345, str s346]) Tryd.results25 Tryd.underlying41 sz41 hS0 0 rfl hA rfl rfl ?_
  exact ⟨rfl, hS⟩
 obtain ⟨t402, hl402, hF⟩ := bnd hF
 have hx402_0 : ∀ (x397 : Int) (x398 : Int) (x399 : Int) (x400 : Int) (s401 : (List UInt8)) (s402 : (List UInt8)), (x397, x398, x399, x400, s401, s402) = t402 → ∀ (ac : Act) (w : World), FR 80 [] ac [(4, .pointer (some ⟨g102, 0, none⟩)), (5, .pointer (some ⟨g112, 0, none⟩))] → SH r (blk g102 41 [.int .i64 0, .int .i64 0, .int .u64 0, .int .u64 0, .int .i64 0, .int .i64 0, str [], str []] :: blk g112 41 [.int .i64 (a0.length : Int), .int .i64 a1, .int .u64 x397, .int .u64 x398, .int .i64 x399, .int .i64 x400, str s401, str s402] :: L) w → Kx270 ac w := by
  intro x397 x398 x399 x400 s401 s402 ht ac w hA hS
  subst ht
  replace hF : segment_chunk_x1_0 a0 a1 x397 x398 x399 x400 s401 s402 = some y := hF
  unfold segment_chunk_x1_0 at hF
  exact hb1 x397 x398 x399 x400 s401 s402 hF ac w (hA.sub _ rfl) hS
 replace hS := hS.pk 1
 refine wp_loop_fn hl402 (fun s ac w => FR 80 [] ac [(4, .pointer (some ⟨g102, 0, none⟩)), (5, .pointer (some ⟨g112, 0, none⟩)), (36, .slice A0 n0 c0), (37, .int .i64 (a0.length : Int)), (38, .int .i64 s.2.2.2.2.2.2)] ∧ SH r (blk g102 41 [.int .i64 0, .int .i64 0, .int .u64 0, .int .u64 0, .int .i64 0, .int .i64 0, str [], str []] :: blk g112 41 [.int .i64 (a0.length : Int), .int .i64 a1, .int .u64 s.1, .int .u64 s.2.1, .int .i64 s.2.2.1, .int .i64 s.2.2.2.1, str s.2.2.2.2.1, str s.2.2.2.2.2.1] :: L) w) ⟨hA.sub _ rfl, hS⟩ ?_
 intro N402 s402 o402 hF N402_ T402_ ac w hLab
 obtain ⟨x369, x370, x371, x372, s373, s374, x375⟩ := s402
 replace hF : segment_chunk_l1 a0 x369 x370 x371 x372 s373 s374 x375 = some o402 := hF
 unfold segment_chunk_l1 at hF
 try dsimp only at hLab
 obtain ⟨hA, hS⟩ := hLab
 refine ws fun K404 hK404 => ?_
 refine x_v hA (r_ltI rfl (hA.ev rfl) (hA.ev rfl)) rfl fun ac hA => ?_
 refine wn (hK404 _ _ ?_)
 refine wp_seq_k fun K405 hK405 => ?_
 refine c_if hA rfl (fun hb406 => ?_) fun hb406 => ?_
 ·replace hF := ift hb406 hF
  refine wp_skip ?_
  refine hK405 _ _ ?_
  refine wp_seq_k fun K407 hK407 => ?_
  refine wp_block_k fun Kx408 hKx408 => ?_
  refine ws fun K409 hK409 => ?_
  obtain ⟨x410, h411, hF⟩ := bnd hF
  refine x_ia Tryd.underlying22 sz44 (hS.rdl 2 ha0 rfl) h411 hA (fun ac hA => ?_) rfl rfl rfl rfl rfl rfl
  obtain ⟨cs, hV, hc412⟩ := el (hS.rdl 2 ha0 rfl) h411
  obtain rfl := hV
  refine x_lda (cs := [.int .u64 x410.f0, .int .i64 x410.f1, .int .i64 x410.f2, str x410.f3, .float .f64 x410.f4]) Tryd.underlying44 sz44 (fun j u h => by rw [ea_add]; exact hc412 _ _ h) hA (fun ac hA => ?_) rfl rfl rfl rfl rfl rfl
  refine x_alloc (cs := [.int .u64 0, .int .i64 0, .int .i64 0, str [], .float .f64 0]) zr44 hA hS (fun g413 ac w hS hA => ?_) rfl rfl rfl rfl rfl
  refine x_stb 0 sz44 hA hS rfl (fun  ac w hS hA => ?_) rfl rfl rfl rfl rfl rfl rfl rfl
  refine wn (hK409 _ _ ?_)
  refine wp_seq_k fun K414 hK414 => ?_
  refine wp_draw [0, 1, 0, 4, 15, 0, 32, 0, 128, 480, 127, 1151, 4095, 8191] [11, 13] rfl hA hS (by kernel_rfl) (by kernel_rfl) (by kernel_rfl) (by kernel_rfl) fun w hS => ?_
  refine ⟨[(0, .pointer (some ⟨g112, 2, none⟩)), (1, .int .u64 x369), (2, .pointer (some ⟨g413, 0, none⟩)), (3, .int .u64 x410.f0), (4, .int .u64 (if x410.f0 < x369 then x410.f0 else x369)), (5, .pointer (some ⟨g112, 3, none⟩)), (6, .int .u64 x370), (7, .pointer (some ⟨g413, 0, none⟩)), (8, .int .u64 x410.f0), (9, .int .u64 (if x370 < x410.f0 then x410.f0 else x370)), (10, .pointer (some ⟨g112, 2, none⟩))], ?_⟩
  refine dEff [0, 1, 2, 3, 4, 5, 6, 7, 8, 9, 10] [11] (by kernel_rfl) ⟨pu rfl rfl [(5, .pointer (some ⟨g112, 0, none⟩))] (fun ac hA => y_fab fa41_2 hA rfl rfl) rfl rfl, pu rfl rfl [(42, .pointer (some ⟨g112, 2, none⟩))] (fun ac hA => y_ld Tryd.underlying31 (hS.cell 2 rfl 2 _ rfl) hA rfl rfl rfl) rfl rfl, pu rfl rfl [(7, .pointer (some ⟨g413, 0, none⟩))] (fun ac hA => y_fab fa44_0 hA rfl rfl) rfl rfl, pu rfl rfl [(44, .pointer (some ⟨g413, 0, none⟩))] (fun ac hA => y_ld Tryd.underlying31 (hS.cell 0 rfl 0 _ rfl) hA rfl rfl rfl) rfl rfl, pu rfl rfl [(43, .int .u64 x369), (45, .int .u64 x410.f0)] (fun ac hA => r_minI rfl (hA.ev rfl) (hA.ev rfl)) rfl rfl, pu rfl rfl [(5, .pointer (some ⟨g112, 0, none⟩))] (fun ac hA => y_fab fa41_3 hA rfl rfl) rfl rfl, pu rfl rfl [(47, .pointer (some ⟨g112, 3, none⟩))] (fun ac hA => y_ld Tryd.underlying31 (hS.cell 2 rfl 3 _ rfl) hA rfl rfl rfl) rfl rfl, pu rfl rfl [(7, .pointer (some ⟨g413, 0, none⟩))] (fun ac hA => y_fab fa44_0 hA rfl rfl) rfl rfl, pu rfl rfl [(49, .pointer (some ⟨g413, 0, none⟩))] (fun ac hA => y_ld Tryd.underlying31 (hS.cell 0 rfl 0 _ rfl) hA rfl rfl rfl) rfl rfl, pu rfl rfl [(48, .int .u64 x370), (50, .int .u64 x410.f0)] (fun ac hA => r_maxI rfl (hA.ev rfl) (hA.ev rfl)) rfl rfl, pu rfl rfl [(5, .pointer (some ⟨g112, 0, none⟩))] (fun ac hA => y_fab fa41_2 hA rfl rfl) rfl rfl, trivial⟩ (by kernel_rfl) (by kernel_rfl) ⟨ef rfl [(46, .int .u64 (if x410.f0 < x369 then x410.f0 else x369)), (52, .pointer (some ⟨g112, 2, none⟩))] (fun ac hA K hK => ?_) rfl rfl, trivial⟩
  refine z_stb 2 sz31 hA hS rfl (fun  w hS => ?_) rfl rfl rfl rfl rfl rfl
  refine hK _ [(12, .pointer (some ⟨g112, 3, none⟩))] _ rfl ?_
  refine dEff [7, 8, 9, 12] [13] (by kernel_rfl) ⟨pu rfl rfl [(7, .pointer (some ⟨g413, 0, none⟩))] (fun ac hA => y_fab fa44_0 hA rfl rfl) rfl rfl, pu rfl rfl [(49, .pointer (some ⟨g413, 0, none⟩))] (fun ac hA => y_ld Tryd.underlying31 (hS.cell 1 rfl 0 _ rfl) hA rfl rfl rfl) rfl rfl, pu rfl rfl [(48, .int .u64 x370), (50, .int .u64 x410.f0)] (fun ac hA => r_maxI rfl (hA.ev rfl) (hA.ev rfl)) rfl rfl, pu rfl rfl [(5, .pointer (some ⟨g112, 0, none⟩))] (fun ac hA => y_fab fa41_3 hA rfl rfl) rfl rfl, trivial⟩ (by kernel_rfl) (by kernel_rfl) ⟨ef rfl [(51, .int .u64 (if x370 < x410.f0 then x410.f0 else x370)), (53, .pointer (some ⟨g112, 3, none⟩))] (fun ac hA K hK => ?_) rfl rfl, trivial⟩
  refine z_stb 0 sz31 hA hS rfl (fun  w hS => ?_) rfl rfl rfl rfl rfl rfl
  refine hK _ [] _ rfl ?_
  refine dEnd [] (by kernel_rfl) trivial ⟨by kernel_rfl, by kernel_rfl⟩ [(4, .pointer (some ⟨g102, 0, none⟩)), (5, .pointer (some ⟨g112, 0, none⟩)), (7, .pointer (some ⟨g413, 0, none⟩)), (36, .slice A0 n0 c0), (37, .int .i64 (a0.length : Int)), (38, .int .i64 x375)] rfl (fun ac hA => ?_)
  refine hK414 _ _ ?_
  refine wp_seq_k fun K415 hK415 => ?_
  refine wp_draw [0, 1, 0, 4, 15, 0, 32, 0, 128, 480, 127, 1151, 4095, 8191] [11, 13] rfl hA hS (by kernel_rfl) (by kernel_rfl) (by kernel_rfl) (by kernel_rfl) fun w hS => ?_
  refine ⟨[(0, .pointer (some ⟨g112, 4, none⟩)), (1, .int .i64 x371), (2, .pointer (some ⟨g413, 2, none⟩)), (3, .int .i64 x410.f2), (4, .int .i64 (if x410.f2 < x371 then x410.f2 else x371)), (5, .pointer (some ⟨g112, 5, none⟩)), (6, .int .i64 x372), (7, .pointer (some ⟨g413, 2, none⟩)), (8, .int .i64 x410.f2), (9, .int .i64 (if x372 < x410.f2 then x410.f2 else x372)), (10, .pointer (some ⟨g112, 4, none⟩))], ?_⟩
  refine dEff [0, 1, 2, 3, 4, 5, 6, 7, 8, 9, 10] [11] (by kernel_rfl) ⟨pu rfl rfl [(5, .pointer (some ⟨g112, 0, none⟩))] (fun ac hA => y_fab fa41_4 hA rfl rfl) rfl rfl, pu rfl rfl [(54, .pointer (some ⟨g112, 4, none⟩))] (fun ac hA => y_ld Tryd.underlying2 (hS.cell 0 rfl 4 _ rfl) hA rfl rfl rfl) rfl rfl, pu rfl rfl [(7, .pointer (some ⟨g413, 0, none⟩))] (fun ac hA => y_fab fa44_2 hA rfl rfl) rfl rfl, pu rfl rfl [(56, .pointer (some ⟨g413, 2, none⟩))] (fun ac hA => y_ld Tryd.underlying2 (hS.cell 1 rfl 2 _ rfl) hA rfl rfl rfl) rfl rfl, pu rfl rfl [(55, .int .i64 x371), (57, .int .i64 x410.f2)] (fun ac hA => r_minI rfl (hA.ev rfl) (hA.ev rfl)) rfl rfl, pu rfl rfl [(5, .pointer (some ⟨g112, 0, none⟩))] (fun ac hA => y_fab fa41_5 hA rfl rfl) rfl rfl, pu rfl rfl [(59, .pointer (some ⟨g112, 5, none⟩))] (fun ac hA => y_ld Tryd.underlying2 (hS.cell 0 rfl 5 _ rfl) hA rfl rfl rfl) rfl rfl, pu rfl rfl [(7, .pointer (some ⟨g413, 0, none⟩))] (fun ac hA => y_fab fa44_2 hA rfl rfl) rfl rfl, pu rfl rfl [(61, .pointer (some ⟨g413, 2, none⟩))] (fun ac hA => y_ld Tryd.underlying2 (hS.cell 1 rfl 2 _ rfl) hA rfl rfl rfl) rfl rfl, pu rfl rfl [(60, .int .i64 x372), (62, .int .i64 x410.f2)] (fun ac hA => r_maxI rfl (hA.ev rfl) (hA.ev rfl)) rfl rfl, pu rfl rfl [(5, .pointer (some ⟨g112, 0, none⟩))] (fun ac hA => y_fab fa41_4 hA rfl rfl) rfl rfl, trivial⟩ (by kernel_rfl) (by kernel_rfl) ⟨ef rfl [(58, .int .i64 (if x410.f2 < x371 then x410.f2 else x371)), (64, .pointer (some ⟨g112, 4, none⟩))] (fun ac hA K hK => ?_) rfl rfl, trivial⟩
  refine z_stb 0 sz2 hA hS rfl (fun  w hS => ?_) rfl rfl rfl rfl rfl rfl
  refine hK _ [(12, .pointer (some ⟨g112, 5, none⟩))] _ rfl ?_
  refine dEff [7, 8, 9, 12] [13] (by kernel_rfl) ⟨pu rfl rfl [(7, .pointer (some ⟨g413, 0, none⟩))] (fun ac hA => y_fab fa44_2 hA rfl rfl) rfl rfl, pu rfl rfl [(61, .pointer (some ⟨g413, 2, none⟩))] (fun ac hA => y_ld Tryd.underlying2 (hS.cell 1 rfl 2 _ rfl) hA rfl rfl rfl) rfl rfl, pu rfl rfl [(60, .int .i64 x372), (62, .int .i64 x410.f2)] (fun ac hA => r_maxI rfl (hA.ev rfl) (hA.ev rfl)) rfl rfl, pu rfl rfl [(5, .pointer (some ⟨g112, 0, none⟩))] (fun ac hA => y_fab fa41_5 hA rfl rfl) rfl rfl, trivial⟩ (by kernel_rfl) (by kernel_rfl) ⟨ef rfl [(63, .int .i64 (if x372 < x410.f2 then x410.f2 else x372)), (65, .pointer (some ⟨g112, 5, none⟩))] (fun ac hA K hK => ?_) rfl rfl, trivial⟩
  refine z_stb 0 sz2 hA hS rfl (fun  w hS => ?_) rfl rfl rfl rfl rfl rfl
  refine hK _ [] _ rfl ?_
  refine dEnd [] (by kernel_rfl) trivial ⟨by kernel_rfl, by kernel_rfl⟩ [(4, .pointer (some ⟨g102, 0, none⟩)), (5, .pointer (some ⟨g112, 0, none⟩)), (7, .pointer (some ⟨g413, 0, none⟩)), (36, .slice A0 n0 c0), (37, .int .i64 (a0.length : Int)), (38, .int .i64 x375)] rfl (fun ac hA => ?_)
  refine hK415 _ _ ?_
  refine wp_draw [0, 1, 0, 4, 15, 0, 32, 0, 128, 480, 127, 1151, 4095, 8191] [11, 13] rfl hA hS (by kernel_rfl) (by kernel_rfl) (by kernel_rfl) (by kernel_rfl) fun w hS => ?_
  refine ⟨[(0, .pointer (some ⟨g112, 6, none⟩)), (1, str s373), (2, .pointer (some ⟨g413, 3, none⟩)), (3, str x410.f3), (4, str (if (Op.bytesLess s373 x410.f3 || s373 == x410.f3) = true then s373 else x410.f3)), (5, .pointer (some ⟨g112, 7, none⟩)), (6, str s374), (7, .pointer (some ⟨g413, 3, none⟩)), (8, str x410.f3), (9, str (if Op.bytesLess s374 x410.f3 = true then x410.f3 else s374)), (10, .pointer (some ⟨g112, 6, none⟩))], ?_⟩
  refine dEff [0, 1, 2, 3, 4, 5, 6, 7, 8, 9, 10] [11] (by kernel_rfl) ⟨pu rfl rfl [(5, .pointer (some ⟨g112, 0, none⟩))] (fun ac hA => y_fab fa41_6 hA rfl rfl) rfl rfl, pu rfl rfl [(66, .pointer (some ⟨g112, 6, none⟩))] (fun ac hA => y_ld Tryd.underlying9 (hS.cell 0 rfl 6 _ rfl) hA rfl rfl rfl) rfl rfl, pu rfl rfl [(7, .pointer (some ⟨g413, 0, none⟩))] (fun ac hA => y_fab fa44_3 hA rfl rfl) rfl rfl, pu rfl rfl [(68, .pointer (some ⟨g413, 3, none⟩))] (fun ac hA => y_ld Tryd.underlying9 (hS.cell 1 rfl 3 _ rfl) hA rfl rfl rfl) rfl rfl, pu rfl rfl [(67, str s373), (69, str x410.f3)] (fun ac hA => r_minS rfl (hA.ev rfl) (hA.ev rfl)) rfl rfl, pu rfl rfl [(5, .pointer (some ⟨g112, 0, none⟩))] (fun ac hA => y_fab fa41_7 hA rfl rfl) rfl rfl, pu rfl rfl [(71, .pointer (some ⟨g112, 7, none⟩))] (fun ac hA => y_ld Tryd.underlying9 (hS.cell 0 rfl 7 _ rfl) hA rfl rfl rfl) rfl rfl, pu rfl rfl [(7, .pointer (some ⟨g413, 0, none⟩))] (fun ac hA => y_fab fa44_3 hA rfl rfl) rfl rfl, pu rfl rfl [(73, .pointer (some ⟨g413, 3, none⟩))] (fun ac hA => y_ld Tryd.underlying9 (hS.cell 1 rfl 3 _ rfl) hA rfl rfl rfl) rfl rfl, pu rfl rfl [(72, str s374), (74, str x410.f3)] (fun ac hA => r_maxS rfl (hA.ev rfl) (hA.ev rfl)) rfl rfl, pu rfl rfl [(5, .pointer (some ⟨g112, 0, none⟩))] (fun ac hA => y_fab fa41_6 hA rfl rfl) rfl rfl, trivial⟩ (by kernel_rfl) (by kernel_rfl) ⟨ef rfl [(70, str (if (Op.bytesLess s373 x410.f3 || s373 == x410.f3) = true then s373 else x410.f3)), (76, .pointer (some ⟨g112, 6, none⟩))] (fun ac hA K hK => ?_) rfl rfl, trivial⟩
  refine z_stb 0 sz9 hA hS rfl (fun  w hS => ?_) rfl rfl rfl rfl rfl rfl
  refine hK _ [(12, .pointer (some ⟨g112, 7, none⟩))] _ rfl ?_
  refine dEff [7, 8, 9, 12] [13] (by kernel_rfl) ⟨pu rfl rfl [(7, .pointer (some ⟨g413, 0, none⟩))] (fun ac hA => y_fab fa44_3 hA rfl rfl) rfl rfl, pu rfl rfl [(73, .pointer (some ⟨g413, 3, none⟩))] (fun ac hA => y_ld Tryd.underlying9 (hS.cell 1 rfl 3 _ rfl) hA rfl rfl rfl) rfl rfl, pu rfl rfl [(72, str s374), (74, str x410.f3)] (fun ac hA => r_maxS rfl (hA.ev rfl) (hA.ev rfl)) rfl rfl, pu rfl rfl [(5, .pointer (some ⟨g112, 0, none⟩))] (fun ac hA => y_fab fa41_7 hA rfl rfl) rfl rfl, trivial⟩ (by kernel_rfl) (by kernel_rfl) ⟨ef rfl [(75, str (if Op.bytesLess s374 x410.f3 = true then x410.f3 else s374)), (77, .pointer (some ⟨g112, 7, none⟩))] (fun ac hA K hK => ?_) rfl rfl, trivial⟩
  refine z_stb 0 sz9 hA hS rfl (fun  w hS => ?_) rfl rfl rfl rfl rfl rfl
  refine hK _ [] _ rfl ?_
  refine dEnd [] (by kernel_rfl) trivial ⟨by kernel_rfl, by kernel_rfl⟩ [(4, .pointer (some ⟨g102, 0, none⟩)), (5, .pointer (some ⟨g112, 0, none⟩)), (36, .slice A0 n0 c0), (37, .int .i64 (a0.length : Int)), (38, .int .i64 x375)] rfl (fun ac hA => ?_)
  refine hKx408 _ _ ?_
  refine hK407 _ _ ?_
  refine wp_reg ?_
  obtain ⟨x416, h417, hF⟩ := ltt_ hF
  refine x_v (v := .int .i64 x416) hA (rv_i h417 (r_add rfl (hA.ev rfl) (hA.ev rfl))) rfl fun ac hA => ?_
  refine x_m hA rfl fun ac hA => ?_
  refine wpList_nil ?_
  replace hS := hS.drop 1
  replace hS := hS.pk 1
  cases hF
  exact ⟨_, N402_ _ rfl, hA.sub _ rfl, hS⟩
 replace hF := iff' hb406 hF
 refine wp_exit ?_
 cases hF
 exact hx402_0 x369 x370 x371 x372 s373 s374 (T402_ _ rfl) ac w (hA.sub _ rfl) hS
end Go.Proofs.YteodeedejjcmgaaDoor.M
namespace Go.Proofs.YteodeedejjcmgaaDoor.M
open Go Go.RowKit Go.Proofs.YteodeedejjcmgaaDoor.E
set_option linter.unusedVariables false
set_option linter.unusedSimpArgs false
set_option maxRecDepth 100000 in
set_option maxHeartbeats 2000000 in
theorem F_slices_Chunk {r w : World} {L : List HP} {A : Option Addr} {n c : Nat} {k : Int} (hk : 1 ≤ k) (hS : SH r L w) :
    Ret Tryd.prog 24 #[.slice A n c, .int .i64 k] w fun v w' => ∃ g1 g2, v = .func (.func 44) #[] #[.pointer (some ⟨g1, 0, none⟩), .pointer (some ⟨g2, 0, none⟩)] ∧ SH r (blk g1 22 [.slice A n c] :: blk g2 3 [.int .i64 k] :: L) w' := by
  refine enter Tryd.func24 rfl Tryd.ntmps24 [(0, .slice A n c), (1, .int .i64 k)] rfl (by simp) ?_
  intro ac hA Qf hQ hQn
  refine wp_seq_k fun K1 hK1 => ?_
  refine wp_reg ?_
  refine x_box hA hS (fun g1 ac w hS hA => ?_) rfl rfl rfl rfl rfl rfl
  refine x_box hA hS (fun g2 ac w hS hA => ?_) rfl rfl rfl rfl rfl rfl
  refine x_assign hA (fun ac hA => ?_) rfl rfl rfl rfl rfl
  refine wpList_nil ?_
  refine hK1 _ _ ?_
  refine wp_seq_k fun K2 hK2 => ?_
  refine wp_seq_k fun K3 hK3 => ?_
  refine wp_reg ?_
  refine x_ld Tryd.underlying3 (hS.cell 0 rfl 0 _ rfl) hA (fun ac hA => ?_) rfl rfl rfl rfl rfl rfl
  refine x_val hA (r_ltI rfl (hA.ev rfl) (hA.ev rfl)) (fun ac hA => ?_) rfl rfl rfl
  refine wpList_nil ?_
  refine hK3 _ _ ?_
  refine c_f (by simp; omega) hA ?_ rfl
  refine wp_skip ?_
  refine hK2 _ _ ?_
  refine wp_seq_k fun K4 hK4 => ?_
  refine wp_reg ?_
  refine x_val hA (r_makeFunc rfl (mapev (vals := #[]) hA rfl) (mapev (vals := #[.pointer (some ⟨g1, 0, none⟩), .pointer (some ⟨g2, 0, none⟩)]) hA rfl)) (fun ac hA => ?_) rfl rfl rfl
  refine x_assign hA (fun ac hA => ?_) rfl rfl rfl rfl rfl
  refine wpList_nil ?_
  refine hK4 _ _ ?_
  refine wp_ret ?_
  refine hQ _ _ ?_
  refine lv Tryd.results24 hA rfl ?_
  exact ⟨g1, g2, rfl, hS.pk 1⟩
theorem szc : (Tryd.prog.info? 44).map (·.size) = some 5 := by kernel_rfl
theorem wr64 {i : Int} (h : -9223372036854775808 ≤ i ∧ i ≤ 9223372036854775807) : IntKind.i64.wrap i = i := by rw [IntKind.wrap_i64]; omega
theorem pcv_cut {A : Option Addr} {sz q m k : Nat} (hq : 1 ≤ q) (h : k * q < m) :
    Value.slice (if (k * q + min q (m - k * q)) = k * q then A else A.map (·.add (k * q * sz))) (k * q + min q (m - k * q) - k * q) (k * q + min q (m - k * q) - k * q) = pcv A sz q m k := by
  rw [if_neg (by omega), Nat.add_sub_cancel_left]
  rfl
set_option maxRecDepth 100000 in
set_option maxHeartbeats 4000000 in
theorem chunk_hands : Hands Tryd.prog 44 5 := by
  intro l b1 b2 A m c q J hq1 hq2 hmc hc hmx hAs hJ hY w h0
  refine CallsIn.mono (R := fun e w' => ∃ v, e = .returned v ∧ J ((m + q - 1) / q) w') (callsIn_wide.2 ?_) fun e w' ⟨v, he, h⟩ => ⟨⟨v, he⟩, h⟩
  refine enter Tryd.func44 rfl Tryd.ntmps44 [(0, .func (.yield l) #[] #[]), (1, .pointer (some ⟨b1, 0, none⟩)), (2, .pointer (some ⟨b2, 0, none⟩))] rfl (by simp) ?_
  intro ac hA Qf hQ hQn
  refine wp_seq_k fun K1 hK1 => ?_
  refine wp_reg ?_
  refine x_assign hA (fun ac hA => ?_) rfl rfl rfl rfl rfl
  refine wpList_nil ?_
  refine hK1 _ _ ?_
  refine wp_block_k fun Kx hKx => ?_
  refine wp_loop (fun a w => ∃ k : Nat, FR 31 [] a [(4, .int .i64 (k * q : Nat)), (0, .func (.yield l) #[] #[]), (1, .pointer (some ⟨b1, 0, none⟩)), (2, .pointer (some ⟨b2, 0, none⟩))] ∧ J k w ∧ k ≤ (m + q - 1) / q)
    (fun a w => match a.tmps.getD 4 undef with | .int _ i => (m + q) - i.toNat | _ => 0) ⟨0, by simpa using hA, h0, Nat.zero_le _⟩ ?_
  rintro a w ⟨k, hA, hJk, hkN⟩
  have h4 : a.tmps.getD 4 undef = .int .i64 (k * q : Nat) := hA.ev (x := .tmp 4) rfl
  obtain ⟨hc1, hc2, hdr⟩ := hJ k w hJk
  refine wp_seq_k fun K2 hK2 => ?_
  refine wp_seq_k fun K3 hK3 => ?_
  refine wp_reg ?_
  refine x_move hA (fun ac hA => ?_) rfl rfl rfl rfl rfl
  refine x_ld Tryd.underlying22 hc1 hA (fun ac hA => ?_) rfl rfl rfl rfl rfl rfl
  refine x_val hA (r_len Tryd.underlying22 rfl (hA.ev rfl)) (fun ac hA => ?_) rfl rfl rfl
  refine x_val hA (r_ltI rfl (hA.ev rfl) (hA.ev rfl)) (fun ac hA => ?_) rfl rfl rfl
  refine wpList_nil ?_
  refine hK3 _ _ ?_
  refine c_if hA rfl (fun hb => ?_) fun hb => ?_
  · have hlt : k * q < m := by have := of_decide_eq_true hb; omega
    have hkq : k * q ≤ 4611686018427387904 := by omega
    have hkN' := (pcs_count hq1).1 hlt
    refine wp_skip ?_
    refine hK2 _ _ ?_
    refine wp_seq_k fun K4 hK4 => ?_
    refine wp_block_k fun Kb hKb => ?_
    refine wp_seq_k fun K5 hK5 => ?_
    refine wp_region_any rfl (draw_w0 [0, 0, 0, 6, 14, 31, 63] [] hA (by kernel_rfl) (by kernel_rfl) (by kernel_rfl) (by kernel_rfl) ?_)
    obtain ⟨hd1, hd2, hdd⟩ := hJ k _ hdr
    refine ⟨[(0, .int .i64 (q : Nat)), (1, .slice A m c), (2, .int .i64 (k * q : Nat)), (3, .slice (if c = ((k * q : Nat) : Int).toNat then A else A.map (·.add (((k * q : Nat) : Int).toNat * 5))) (m - ((k * q : Nat) : Int).toNat) (c - ((k * q : Nat) : Int).toNat)), (4, .int .i64 ((m - ((k * q : Nat) : Int).toNat : Nat) : Int)), (5, .int .i64 (if ((m - ((k * q : Nat) : Int).toNat : Nat) : Int) < ((q : Nat) : Int) then ((m - ((k * q : Nat) : Int).toNat : Nat) : Int) else ((q : Nat) : Int))), (6, .int .i64 (if ((m - ((k * q : Nat) : Int).toNat : Nat) : Int) < ((q : Nat) : Int) then ((m - ((k * q : Nat) : Int).toNat : Nat) : Int) else ((q : Nat) : Int)))], ?_⟩
    refine dEnd [0, 1, 2, 3, 4, 5, 6] (by kernel_rfl) ⟨?_, ?_, ?_, ?_, ?_, ?_, ?_, trivial⟩ ⟨by kernel_rfl, by kernel_rfl⟩ [(5, .int .i64 (min q (m - k * q) : Nat)), (4, .int .i64 (k * q : Nat)), (0, .func (.yield l) #[] #[]), (1, .pointer (some ⟨b1, 0, none⟩)), (2, .pointer (some ⟨b2, 0, none⟩))] ?_ (fun ac hA => ?_)
    · exact pu rfl rfl [(2, .pointer (some ⟨b2, 0, none⟩))] (fun ac hA => y_ld Tryd.underlying3 hd2 hA rfl rfl rfl) rfl rfl
    · exact pu rfl rfl [(1, .pointer (some ⟨b1, 0, none⟩))] (fun ac hA => y_ld Tryd.underlying22 hd1 hA rfl rfl rfl) rfl rfl
    · exact pu rfl rfl [(4, .int .i64 (k * q : Nat))] (fun ac hA => r_move rfl (hA.ev rfl)) rfl rfl
    · exact pu rfl rfl [(14, .slice A m c), (15, .int .i64 (k * q : Nat))] (fun ac hA => r_slice_l Tryd.underlying22 szc rfl (hA.ev rfl) (hA.ev rfl) (by omega) (by omega)) rfl rfl
    · exact pu rfl rfl [(16, .slice (if c = ((k * q : Nat) : Int).toNat then A else A.map (·.add (((k * q : Nat) : Int).toNat * 5))) (m - ((k * q : Nat) : Int).toNat) (c - ((k * q : Nat) : Int).toNat))] (fun ac hA => r_len Tryd.underlying22 rfl (hA.ev rfl)) rfl rfl
    · exact pu rfl rfl [(13, .int .i64 (q : Nat)), (17, .int .i64 ((m - ((k * q : Nat) : Int).toNat : Nat) : Int))] (fun ac hA => r_minI rfl (hA.ev rfl) (hA.ev rfl)) rfl rfl
    · exact pu rfl rfl [(18, .int .i64 (if ((m - ((k * q : Nat) : Int).toNat : Nat) : Int) < ((q : Nat) : Int) then ((m - ((k * q : Nat) : Int).toNat : Nat) : Int) else ((q : Nat) : Int)))] (fun ac hA => r_assign rfl (hA.ev rfl)) rfl rfl
    · have e : (if ((m - ((k * q : Nat) : Int).toNat : Nat) : Int) < ((q : Nat) : Int) then ((m - ((k * q : Nat) : Int).toNat : Nat) : Int) else ((q : Nat) : Int)) = (min q (m - k * q) : Nat) := by
        rw [show ((k * q : Nat) : Int).toNat = k * q from by omega]
        split <;> omega
      rw [e]
      rfl
    refine hK5 _ _ ?_
    refine wp_seq_k fun K6 hK6 => ?_
    refine (wpIn_wide (n := 6)).1 (wpIn_region_list ?_)
    refine xi_val hA (r_move rfl (hA.ev rfl)) (fun ac hA => ?_) rfl rfl rfl rfl
    refine xi_val hA (y_ld Tryd.underlying22 hd1 hA rfl rfl rfl) (fun ac hA => ?_) rfl rfl rfl rfl
    refine xi_val hA (r_move rfl (hA.ev rfl)) (fun ac hA => ?_) rfl rfl rfl rfl
    refine xi_val hA (r_move rfl (hA.ev rfl)) (fun ac hA => ?_) rfl rfl rfl rfl
    refine xi_val hA (r_move rfl (hA.ev rfl)) (fun ac hA => ?_) rfl rfl rfl rfl
    refine xi_val hA (r_add rfl (hA.ev rfl) (hA.ev rfl)) (fun ac hA => ?_) rfl rfl rfl rfl
    refine xi_val hA (r_move rfl (hA.ev rfl)) (fun ac hA => ?_) rfl rfl rfl rfl
    refine xi_val hA (r_move rfl (hA.ev rfl)) (fun ac hA => ?_) rfl rfl rfl rfl
    refine xi_val hA (r_add rfl (hA.ev rfl) (hA.ev rfl)) (fun ac hA => ?_) rfl rfl rfl rfl
    have ew : IntKind.i64.wrap (((k * q : Nat) : Int) + ((min q (m - k * q) : Nat) : Int)) = ((k * q + min q (m - k * q) : Nat) : Int) := by
      rw [show ((k * q : Nat) : Int) + ((min q (m - k * q) : Nat) : Int) = ((k * q + min q (m - k * q) : Nat) : Int) from by omega]
      exact wr64 (by omega)
    rw [ew] at hA
    refine xi_val (v := pcv A 5 q m k) hA ?_ (fun ac hA => ?_) rfl rfl rfl rfl
    · rw [← pcv_cut hq1 hlt]
      refine rv_e ?_ (r_slice_lhm (sz := 5) Tryd.underlying22 szc rfl (hA.ev rfl) (hA.ev rfl) (hA.ev rfl) (hA.ev rfl) ⟨by omega, by omega, by omega, by omega⟩)
      simp only [Int.toNat_natCast]
    refine xi_yield hA (hY k _ hdr hlt) (fun e w' h => ⟨h.1, rfl, h.2⟩) (fun ac w3 hR hA => ?_) rfl rfl rfl rfl rfl rfl
    refine xi_val hA (r_not rfl (hA.ev rfl)) (fun ac hA => ?_) rfl rfl rfl rfl
    refine wpListIn_nil ?_
    refine hK6 _ _ ?_
    refine c_f (b := !true) rfl hA ?_ rfl
    refine wp_skip ?_
    refine hKb _ _ ?_
    refine hK4 _ _ ?_
    obtain ⟨_, hJ3⟩ := hR
    obtain ⟨_, hc3, _⟩ := hJ _ _ hJ3
    refine wp_reg ?_
    refine x_move hA (fun ac hA => ?_) rfl rfl rfl rfl rfl
    refine x_ld Tryd.underlying3 hc3 hA (fun ac hA => ?_) rfl rfl rfl rfl rfl rfl
    refine x_val hA (r_add rfl (hA.ev rfl) (hA.ev rfl)) (fun ac hA => ?_) rfl rfl rfl
    refine x_assign hA (fun ac hA => ?_) rfl rfl rfl rfl rfl
    refine wpList_nil ?_
    have ew2 : IntKind.i64.wrap (((k * q : Nat) : Int) + ((q : Nat) : Int)) = (((k + 1) * q : Nat) : Int) := by
      rw [show ((k * q : Nat) : Int) + ((q : Nat) : Int) = (((k + 1) * q : Nat) : Int) from by rw [Nat.add_mul]; omega]
      exact wr64 (by rw [Nat.add_mul]; omega)
    rw [ew2] at hA
    refine ⟨⟨k + 1, hA.sub _ rfl, hJ3, hkN'⟩, ?_⟩
    rw [h4, show ac.tmps.getD 4 undef = .int .i64 ((k + 1) * q : Nat) from hA.ev (x := .tmp 4) rfl]
    simp only [Int.toNat_natCast, Nat.add_mul]
    omega
  · have hge : ¬ k * q < m := by have := of_decide_eq_false hb; omega
    have hkN' : ¬ k < (m + q - 1) / q := fun h => hge ((pcs_count hq1).2 h)
    refine wp_exit ?_
    refine hKx _ _ ?_
    refine hQn _ _ ?_
    refine lv0n Tryd.results44 hA ?_
    rw [show (m + q - 1) / q = k from by omega]
    exact hJk
end Go.Proofs.YteodeedejjcmgaaDoor.M
namespace Go.Proofs.YteodeedejjcmgaaDoor.M
open Go Go.RowKit Go.Proofs.YteodeedejjcmgaaDoor.E
set_option linter.unusedVariables false
set_option linter.unusedSimpArgs false
noncomputable def segment_uints_b1 (l316 : (List Int)) : Option ((List Int)) :=
  some l316
noncomputable def segment_uints_x1_0 (l368 : (List Int)) : Option ((List Int)) :=
  segment_uints_b1 l368
noncomputable def segment_uints_l1 (a1 : (List Int)) (l342 : (List Int)) (x346 : Int) : Option (((List Int) × Int) ⊕ (((List Int)))) :=
  if (decide (x346 < (a1.length : Int))) = true then ((at_ a1 x346).bind fun x379 => ((column_Uint l342 x379).bind fun y382 => (ltt (IntKind.i64.wrap (x346 + 1)) fun x387 => (some (.inl (y382, x387)))))) else (some (.inr (l342)))
noncomputable def segment_uints (a0 : (List Int)) (a1 : (List Int)) : Option ((List Int)) :=
  (loop (fun s => segment_uints_l1 a1 s.1 s.2) (a0, 0)).bind fun t => segment_uints_x1_0 t
noncomputable def segment_Write_r1 (l424 : (List Int)) (l428 : (List S41)) (l471 : (List S44)) : Option ((List Int) × (List S41)) :=
  (segment_chunk l471 (l424.length : Int)).bind fun y475 => (chk (l428.length + [y475].length ≤ 140737488355328 / 80) ((event_Lay l424 l471).bind fun y482 => (some (y482, l428 ++ [y475]))))
noncomputable def segment_Write_b2 (l424 : (List Int)) (l970 : (List Int)) : Option ((List Int) × Int) :=
  (page_Lay l424 102 l970).bind fun y976 => (ltt (IntKind.u8.wrap (l424.length : Int)) fun x982 => (ltt (ishr .i64 (l424.length : Int) 8) fun x984 => (ltt (IntKind.u8.wrap x984) fun x986 => (ltt (ishr .i64 (l424.length : Int) 16) fun x988 => (ltt (IntKind.u8.wrap x988) fun x990 => (ltt (ishr .i64 (l424.length : Int) 24) fun x992 => (ltt (IntKind.u8.wrap x992) fun x994 => ((page_Lay y976 116 [x982, x986, x990, x994]).bind fun y997 => (some (y997, 0))))))))))
noncomputable def segment_Write_x1_5 (l424 : (List Int)) (l1105 : (List Int)) : Option ((List Int) × Int) :=
  segment_Write_b2 l424 l1105
noncomputable def segment_Write_l1 (l428 : (List S41)) (l1051 : (List Int)) (x1055 : Int) : Option (((List Int) × Int) ⊕ (((List Int)))) :=
  if (decide (x1055 < (l428.length : Int))) = true then ((at_ l428 x1055).bind fun x1116 => (ltt (IntKind.u64.wrap x1116.f0) fun x1121 => (ltt (IntKind.u64.wrap x1116.f1) fun x1123 => ((segment_uints l1051 [x1121, x1123, x1116.f2, x1116.f3]).bind fun y1126 => ((column_Int y1126 x1116.f4).bind fun y1132 => ((column_Int y1132 x1116.f5).bind fun y1137 => ((column_Text y1137 x1116.f6).bind fun y1142 => ((column_Text y1142 x1116.f7).bind fun y1147 => (ltt (IntKind.i64.wrap (x1055 + 1)) fun x1152 => (some (.inl (y1147, x1152)))))))))))) else (some (.inr (l1051)))
noncomputable def segment_Write_rx1 (a1 : Int) (l424 : (List Int)) (l428 : (List S41)) : Option ((List Int) × Int) :=
  ltt (IntKind.u64.wrap a1) fun x494 => (ltt (IntKind.u64.wrap (l428.length : Int)) fun x496 => ((segment_uints [] [x494, x496]).bind fun y499 => ((loop (fun s => segment_Write_l1 l428 s.1 s.2) (y499, 0)).bind fun t => segment_Write_x1_5 l424 t)))
noncomputable def segment_Write_b1 (a0 : (List S44)) (a1 : Int) : Option ((List Int) × Int) :=
  (chk (a0.length ≤ 4611686018427387904) ((pcs 64 a0).foldlM (fun s l => segment_Write_r1 s.1 s.2 l) ([], []))).bind fun t => segment_Write_rx1 a1 t.1 t.2
noncomputable def segment_Write_x2_1 (a0 : (List S44)) (a1 : Int) : Option ((List Int) × Int) :=
  segment_Write_b1 a0 a1
noncomputable def segment_Write_l2 (a0 : (List S44)) (a1 : Int) (x1181 : Int) : Option ((Int) ⊕ ((Unit) ⊕ ((List Int) × Int))) :=
  if (decide (x1181 < (a0.length : Int))) = true then ((at_ a0 x1181).bind fun x1218 => ((event_Form x1218 a1).bind fun y1224 => (if (!y1224) = true then (some (.inr (.inr ([], 3)))) else ((at_ a0 0).bind fun x1229 => (ltt (IntKind.u64.wrap x1181) fun x1232 => (ltt (IntKind.u64.wrap (x1229.f0 + x1232)) fun x1234 => (if (x1218.f0 != x1234) = true then (some (.inr (.inr ([], 8)))) else (ltt (IntKind.i64.wrap (x1181 + 1)) fun x1238 => (some (.inl (x1238))))))))))) else (some (.inr (.inl ())))
noncomputable def segment_Write_j1 (a0 : (List S44)) (a1 : Int) (b107 : Bool) : Option ((List Int) × Int) :=
  if b107 = true then (some ([], 1)) else (if (decide (1024 < (a0.length : Int))) = true then (some ([], 2)) else ((loop (fun s => segment_Write_l2 a0 a1 s) (0)).bind fun t => match t with | (.inl t) => segment_Write_x2_1 a0 a1 | (.inr t) => some t))
noncomputable def segment_Write (a0 : (List S44)) (a1 : Int) : Option ((List Int) × Int) :=
  if ((a0.length : Int) == 0) = true then (segment_Write_j1 a0 a1 true) else (if (decide (a1 < 1)) = true then (segment_Write_j1 a0 a1 true) else (segment_Write_j1 a0 a1 (decide (8 < a1))))
end Go.Proofs.YteodeedejjcmgaaDoor.M
namespace Go.Proofs.YteodeedejjcmgaaDoor.M
open Go Go.RowKit Go.Proofs.YteodeedejjcmgaaDoor.E
set_option linter.unusedVariables false
set_option maxRecDepth 100000
set_option maxHeartbeats 4000000
set_option linter.unusedSimpArgs false
theorem F_segment_uints {r : World} {L : List HP} {w : World} (a0 : (List Int)) (a1 : (List Int)) (A0 : Option Addr) (n0 : Nat) (c0 : Nat) (A1 : Option Addr) (n1 : Nat) (c1 : Nat) {y : ((List Int))} (hF : segment_uints a0 a1 = some y) (ha1 : RdL L (kI .u64) A1 n1 c1 a1) (hS : SH r (own (kI .u8) 5 A0 n0 c0 a0 :: L) w) :
  Ret Tryd.prog 27 #[.slice A0 n0 c0, .slice A1 n1 c1] w fun v w' => ∃ (B0 : Option Addr) (m0 : Nat) (d0 : Nat), v = .slice B0 m0 d0 ∧ SH r (own (kI .u8) 5 B0 m0 d0 y :: L) w' := by
 refine enter Tryd.func27 rfl Tryd.ntmps27 [(0, .slice A0 n0 c0), (1, .slice A1 n1 c1)] rfl (by simp) ?_
 intro ac hA Qf hQ hQn
 unfold segment_uints at hF
 refine ws fun K101 hK101 => ?_
 refine x_m hA rfl fun ac hA => ?_
 refine wn (hK101 _ _ ?_)
 refine wp_seq_k fun K102 hK102 => ?_
 refine ws fun K246 hK246 => ?_
 refine x_m hA rfl fun ac hA => ?_
 refine x_len Tryd.underlying97 (hS.rdl 1 ha1 rfl).2.1 hA (fun ac hA => ?_) rfl rfl rfl rfl rfl
 refine x_m hA rfl fun ac hA => ?_
 refine wn (hK246 _ _ ?_)
 refine wp_block_k fun Kx247 hKx247 => ?_
 have hb1 : ∀ (l316 : (List Int)), segment_uints_b1 l316 = some y → ∀ (A317 : Option Addr) (n318 : Nat) (c319 : Nat) (ac : Act) (w : World), FR 18 [] ac [(0, .slice A317 n318 c319)] → SH r (own (kI .u8) 5 A317 n318 c319 l316 :: L) w → Kx247 ac w := by
  intro l316 hF A317 n318 c319 ac w hA hS
  unfold segment_uints_b1 at hF
  refine hKx247 _ _ ?_
  refine hK102 _ _ ?_
  refine ws fun K320 hK320 => ?_
  refine x_m hA rfl fun ac hA => ?_
  refine x_m hA rfl fun ac hA => ?_
  refine wn (hK320 _ _ ?_)
  refine wp_ret ?_
  cases hF
  refine hQ _ _ ?_
  refine lv Tryd.results27 hA rfl ?_
  exact ⟨A317, n318, c319, rfl, hS⟩
 obtain ⟨t371, hl371, hF⟩ := bnd hF
 have hx371_0 : ∀ (l368 : (List Int)), (l368) = t371 → ∀ (A369 : Option Addr) (n370 : Nat) (c371 : Nat) (ac : Act) (w : World), FR 18 [] ac [(0, .slice A369 n370 c371)] → SH r (own (kI .u8) 5 A369 n370 c371 l368 :: L) w → Kx247 ac w := by
  intro l368 ht A369 n370 c371 ac w hA hS
  subst ht
  replace hF : segment_uints_x1_0 l368 = some y := hF
  unfold segment_uints_x1_0 at hF
  exact hb1 l368 hF A369 n370 c371 ac w (hA.sub _ rfl) hS
 refine wp_loop_fn hl371 (fun s ac w => ∃ (A343 : Option Addr) (n344 : Nat) (c345 : Nat), FR 18 [] ac [(0, .slice A343 n344 c345), (7, .slice A1 n1 c1), (8, .int .i64 (a1.length : Int)), (9, .int .i64 s.2)] ∧ SH r (own (kI .u8) 5 A343 n344 c345 s.1 :: L) w) ⟨A0, n0, c0, hA.sub _ rfl, hS⟩ ?_
 intro N371 s371 o371 hF N371_ T371_ ac w hLab
 obtain ⟨l342, x346⟩ := s371
 replace hF : segment_uints_l1 a1 l342 x346 = some o371 := hF
 unfold segment_uints_l1 at hF
 try dsimp only at hLab
 obtain ⟨A343, n344, c345, hA, hS⟩ := hLab
 refine ws fun K373 hK373 => ?_
 refine x_v hA (r_ltI rfl (hA.ev rfl) (hA.ev rfl)) rfl fun ac hA => ?_
 refine wn (hK373 _ _ ?_)
 refine wp_seq_k fun K374 hK374 => ?_
 refine c_if hA rfl (fun hb375 => ?_) fun hb375 => ?_
 ·replace hF := ift hb375 hF
  refine wp_skip ?_
  refine hK374 _ _ ?_
  refine wp_seq_k fun K376 hK376 => ?_
  refine wp_block_k fun Kx377 hKx377 => ?_
  refine ws fun K378 hK378 => ?_
  obtain ⟨x379, h380, hF⟩ := bnd hF
  refine x_ia Tryd.underlying97 sz31 (hS.rdl 1 ha1 rfl) h380 hA (fun ac hA => ?_) rfl rfl rfl rfl rfl rfl
  obtain ⟨cs, hV, hc381⟩ := el (hS.rdl 1 ha1 rfl) h380
  obtain rfl := hV
  refine x_ld Tryd.underlying31 (hc381 0 _ rfl) hA (fun ac hA => ?_) rfl rfl rfl rfl rfl rfl
  refine x_m hA rfl fun ac hA => ?_
  refine wn (hK378 _ _ ?_)
  refine wp_reg ?_
  refine x_m hA rfl fun ac hA => ?_
  refine x_m hA rfl fun ac hA => ?_
  obtain ⟨y382, h383, hF⟩ := bnd hF
  refine x_call en48 hA (F_column_Uint (L := L) l342 x379 A343 n344 c345 h383 hS) (fun v ac w hR hA => ?_) rfl rfl rfl rfl rfl
  obtain ⟨B384, m385, d386, rfl, hS⟩ := hR
  refine x_m hA rfl fun ac hA => ?_
  refine wpList_nil ?_
  refine hKx377 _ _ ?_
  refine hK376 _ _ ?_
  refine wp_reg ?_
  obtain ⟨x387, h388, hF⟩ := ltt_ hF
  refine x_v (v := .int .i64 x387) hA (rv_i h388 (r_add rfl (hA.ev rfl) (hA.ev rfl))) rfl fun ac hA => ?_
  refine x_m hA rfl fun ac hA => ?_
  refine wpList_nil ?_
  cases hF
  exact ⟨_, N371_ _ rfl, B384, m385, d386, hA.sub _ rfl, hS⟩
 replace hF := iff' hb375 hF
 refine wp_exit ?_
 cases hF
 exact hx371_0 l342 (T371_ _ rfl) A343 n344 c345 ac w (hA.sub _ rfl) hS
theorem F_segment_Write {r : World} {L : List HP} {w : World} {Z : Nat → Prop} {wz : World} (a0 : (List S44)) (a1 : Int) (A0 : Option Addr) (n0 : Nat) (c0 : Nat) {y : ((List Int) × Int)} (hF : segment_Write a0 a1 = some y) (ha0 : Imm Z wz k44 A0 n0 c0 a0) (hG0 : Imm Z wz (kI .u32) (some ⟨0, 0, none⟩) 16 16 gl_page_table) (hS : SH r (zone Z wz :: L) w) :
  Ret Tryd.prog 11 #[.slice A0 n0 c0, .int .i64 a1] w fun v w' => ∃ (Z' : Nat → Prop) (wz' : World) (B0 : Option Addr) (m0 : Nat) (d0 : Nat), v = .tuple #[(.slice B0 m0 d0), (.int .i64 y.2)] ∧ Sub Z wz Z' wz' ∧ SH r (own (kI .u8) 5 B0 m0 d0 y.1 :: zone Z' wz' :: L) w' := by
 refine enterM Tryd.func11 rfl Tryd.ntmps11 [(0, .slice A0 n0 c0), (1, .int .i64 a1)] rfl (by simp) ?_
 intro ac hA Qf hQ hQD
 unfold segment_Write at hF
 refine ws fun K101 hK101 => ?_
 refine x_m hA rfl fun ac hA => ?_
 refine x_m hA rfl fun ac hA => ?_
 refine wn (hK101 _ _ ?_)
 refine wp_seq_k fun K102 hK102 => ?_
 refine wp_block_k fun Kx103 hKx103 => ?_
 refine wp_seq_k fun K104 hK104 => ?_
 have hj1 : ∀ (b107 : Bool), segment_Write_j1 a0 a1 b107 = some y → ∀ (ac : Act) (w : World), FR 126 [] ac [(0, .slice A0 n0 c0), (1, .int .i64 a1), (15, .bool b107)] → SH r (zone Z wz :: L) w → K104 ac w := by
  intro b107 hF ac w hA hS
  unfold segment_Write_j1 at hF
  refine hK104 _ _ ?_
  refine c_if hA rfl (fun hb108 => ?_) fun hb108 => ?_
  ·replace hF := ift hb108 hF
   refine ws fun K109 hK109 => ?_
   refine x_m hA rfl fun ac hA => ?_
   refine x_m hA rfl fun ac hA => ?_
   refine wn (hK109 _ _ ?_)
   refine wp_ret ?_
   replace hS := SH.nil_own (d := (kI .u8)) (e := 5) hS
   replace hS := hS.pk 1
   replace hS := hS.pk 1
   cases hF
   refine hQ _ _ ?_
   refine lv2 Tryd.results11 hA rfl rfl ?_
   exact ⟨Z, wz, none, 0, 0, rfl, (Sub.refl _ _), hS⟩
  replace hF := iff' hb108 hF
  refine ws fun K110 hK110 => ?_
  refine x_m hA rfl fun ac hA => ?_
  refine x_len Tryd.underlying22 (hS.imm 0 ha0 rfl).2.1 hA (fun ac hA => ?_) rfl rfl rfl rfl rfl
  refine x_v hA (r_gtI rfl (hA.ev rfl) (hA.ev rfl)) rfl fun ac hA => ?_
  refine x_m hA rfl fun ac hA => ?_
  refine wn (hK110 _ _ ?_)
  refine c_if hA rfl (fun hb111 => ?_) fun hb111 => ?_
  ·replace hF := ift hb111 hF
   refine ws fun K112 hK112 => ?_
   refine x_m hA rfl fun ac hA => ?_
   refine x_m hA rfl fun ac hA => ?_
   refine wn (hK112 _ _ ?_)
   refine wp_ret ?_
   replace hS := SH.nil_own (d := (kI .u8)) (e := 5) hS
   replace hS := hS.pk 1
   replace hS := hS.pk 1
   cases hF
   refine hQ _ _ ?_
   refine lv2 Tryd.results11 hA rfl rfl ?_
   exact ⟨Z, wz, none, 0, 0, rfl, (Sub.refl _ _), hS⟩
  replace hF := iff' hb111 hF
  refine wp_skip ?_
  refine hKx103 _ _ ?_
  refine hK102 _ _ ?_
  refine wp_seq_k fun K113 hK113 => ?_
  refine ws fun K289 hK289 => ?_
  refine x_m hA rfl fun ac hA => ?_
  refine x_len Tryd.underlying22 (hS.imm 0 ha0 rfl).2.1 hA (fun ac hA => ?_) rfl rfl rfl rfl rfl
  refine x_m hA rfl fun ac hA => ?_
  refine wn (hK289 _ _ ?_)
  refine wp_block_k fun Kx290 hKx290 => ?_
  have hb1 : segment_Write_b1 a0 a1 = some y → ∀ (ac : Act) (w : World), FR 126 [] ac [(0, .slice A0 n0 c0), (1, .int .i64 a1)] → SH r (zone Z wz :: L) w → Kx290 ac w := by
   intro hF ac w hA hS
   unfold segment_Write_b1 at hF
   refine hKx290 _ _ ?_
   refine hK113 _ _ ?_
   refine ws fun K377 hK377 => ?_
   refine x_alloc (cs := [.slice none 0 0]) zr24 hA hS (fun g378 ac w hS hA => ?_) rfl rfl rfl rfl rfl
   refine wn (hK377 _ _ ?_)
   refine ws fun K379 hK379 => ?_
   refine x_alloc (cs := [.slice none 0 0]) zr38 hA hS (fun g380 ac w hS hA => ?_) rfl rfl rfl rfl rfl
   refine wn (hK379 _ _ ?_)
   refine wp_seq_k fun K381 hK381 => ?_
   refine ws fun K382 hK382 => ?_
   refine x_m hA rfl fun ac hA => ?_
   refine x_call en24 hA (F_slices_Chunk (L := blk g380 38 [.slice none 0 0] :: blk g378 24 [.slice none 0 0] :: zone Z wz :: L) (A := A0) (n := n0) (c := c0) (k := 64) (by decide) hS) (fun v ac w hR hA => ?_) rfl rfl rfl rfl rfl
   obtain ⟨g383, g384, rfl, hS⟩ := hR
   refine wn (hK382 _ _ ?_)
   refine wp_block_k fun Kx385 hKx385 => ?_
   replace hS := SH.nil_own (d := (kI .u8)) (e := 5) hS
   replace hS := SH.nil_own (d := k41) (e := 41) hS
   replace hS := hS.pk 6
   replace hS := hS.pk 1
   replace hS := hS.pk 2
   replace hS := hS.pk 4
   replace hS := hS.pk 4
   replace hS := hS.pk 5
   replace hS := hS.pk 6
   obtain ⟨t467, hl467, hF⟩ := bnd hF
   obtain ⟨hm467, hl467⟩ := chk_some hl467
   refine wp_pieces (d := k44) chunk_hands en44 rfl hl467 (hA.sub [(1, .int .i64 a1), (8, .pointer (some ⟨g378, 0, none⟩)), (9, .pointer (some ⟨g380, 0, none⟩)), (54, .func (.func 44) #[] #[.pointer (some ⟨g383, 0, none⟩), .pointer (some ⟨g384, 0, none⟩)])] rfl) (Imm.pieces ha0) hm467 (fun (s : ((List Int) × (List S41))) E => ∃ (Z421 : Nat → Prop) (wz422 : World) (A425 : Option Addr) (n426 : Nat) (c427 : Nat) (A429 : Option Addr) (n430 : Nat) (c431 : Nat), Sub Z wz Z421 wz422 ∧ Imm Z421 wz422 k44 A0 n0 c0 a0 ∧ E = [blk g378 24 [.slice A425 n426 c427], blk g380 38 [.slice A429 n430 c431], blk g383 22 [.slice A0 n0 c0], blk g384 3 [.int .i64 64], own (kI .u8) 5 A425 n426 c427 s.1, own k41 41 A429 n430 c431 s.2, zone Z421 wz422]) [blk g378 24 [.slice none 0 0], blk g380 38 [.slice none 0 0], blk g383 22 [.slice A0 n0 c0], blk g384 3 [.int .i64 64], own (kI .u8) 5 none 0 0 [], own k41 41 none 0 0 [], zone Z wz] ⟨Z, wz, none, 0, 0, none, 0, 0, (Sub.refl _ _), ha0, rfl⟩ hS ?_ ?_ ?_ rfl rfl rfl rfl rfl rfl
   ·rintro s E ⟨Z421, wz422, A425, n426, c427, A429, n430, c431, h423, h432, rfl⟩
    exact ⟨2, 3, _, _, rfl, rfl⟩
   ·intro lp k s467 o467 E B ac w hlt hF hX hA hS Qr hLO hK
    obtain ⟨l424, l428⟩ := s467
    try dsimp only at hX
    obtain ⟨Z421, wz422, A425, n426, c427, A429, n430, c431, h423, h432, rfl⟩ := hX
    replace hS : SH r (blk g378 24 [.slice A425 n426 c427] :: blk g380 38 [.slice A429 n430 c431] :: blk g383 22 [.slice A0 n0 c0] :: blk g384 3 [.int .i64 64] :: own (kI .u8) 5 A425 n426 c427 l424 :: own k41 41 A429 n430 c431 l428 :: zone Z421 wz422 :: B) w := hS
    obtain ⟨A469, n470, hpv, h472⟩ := Imm.piece h432 rfl hlt
    replace hA := hpv ▸ hA
    clear hpv
    generalize List.take 64 (List.drop (k * 64) a0) = l471 at hF h472
    replace hF : segment_Write_r1 l424 l428 l471 = some o467 := hF
    unfold segment_Write_r1 at hF
    refine in_block_k fun Kx473 hKx473 => ?_
    refine wpIn_seq_k fun K474 hK474 => ?_
    refine in_draw [0, 0, 0, 4, 14, 30, 63, 127] [4, 5, 6, 7] rfl hA hS (by kernel_rfl) (by kernel_rfl) (by kernel_rfl) (by kernel_rfl) (by kernel_rfl) hLO fun w hS => ?_
    refine ⟨[(0, .slice A429 n430 c431), (1, .slice A469 n470 n470), (2, .slice A425 n426 c427), (3, .int .i64 (l424.length : Int))], ?_⟩
    refine dEff [0, 1, 2, 3] [4] (by kernel_rfl) ⟨pu rfl rfl [(9, .pointer (some ⟨g380, 0, none⟩))] (fun ac hA => y_ld Tryd.underlying38 (hS.cell 1 rfl 0 _ rfl) hA rfl rfl rfl) rfl rfl, pu rfl rfl [(10, .slice A469 n470 n470)] (fun ac hA => y_move hA rfl rfl) rfl rfl, pu rfl rfl [(8, .pointer (some ⟨g378, 0, none⟩))] (fun ac hA => y_ld Tryd.underlying24 (hS.cell 0 rfl 0 _ rfl) hA rfl rfl rfl) rfl rfl, pu rfl rfl [(58, .slice A425 n426 c427)] (fun ac hA => y_len Tryd.underlying24 (hS.rd 4 rfl).2.1 hA rfl rfl) rfl rfl, trivial⟩ (by kernel_rfl) (by kernel_rfl) ⟨ef rfl [(57, .slice A469 n470 n470), (59, .int .i64 (l424.length : Int))] (fun ac hA K hK => ?_) rfl rfl, trivial⟩
    obtain ⟨y475, h476, hF⟩ := bnd hF
    refine z_call en25 hA (F_segment_chunk (L := blk g378 24 [.slice A425 n426 c427] :: blk g380 38 [.slice A429 n430 c431] :: blk g383 22 [.slice A0 n0 c0] :: blk g384 3 [.int .i64 64] :: own (kI .u8) 5 A425 n426 c427 l424 :: own k41 41 A429 n430 c431 l428 :: zone Z421 wz422 :: B) l471 (l424.length : Int) A469 n470 n470 h476 (h472.rdl 6 rfl) hS) (fun v w hR => ?_) rfl rfl
    obtain ⟨rfl, hS⟩ := hR
    refine hK _ [] _ rfl ?_
    refine dEff [0] [5] (by kernel_rfl) ⟨pu rfl rfl [(9, .pointer (some ⟨g380, 0, none⟩))] (fun ac hA => y_ld Tryd.underlying38 (hS.cell 1 rfl 0 _ rfl) hA rfl rfl rfl) rfl rfl, trivial⟩ (by kernel_rfl) (by kernel_rfl) ⟨ef rfl [(60, .agg #[.int .i64 y475.f0, .int .i64 y475.f1, .int .u64 y475.f2, .int .u64 y475.f3, .int .i64 y475.f4, .int .i64 y475.f5, str y475.f6, str y475.f7])] (fun ac hA K hK => ?_) rfl rfl, trivial⟩
    refine z_bsl (d := k41) (e := 41) (ps := #[(0, .agg #[.int .i64 y475.f0, .int .i64 y475.f1, .int .u64 y475.f2, .int .u64 y475.f3, .int .i64 y475.f4, .int .i64 y475.f5, str y475.f6, str y475.f7])]) (cells := [.int .i64 y475.f0, .int .i64 y475.f1, .int .u64 y475.f2, .int .u64 y475.f3, .int .i64 y475.f4, .int .i64 y475.f5, str y475.f6, str y475.f7]) (xs := [y475]) (fun w => by kernel_rfl) rfl ⟨[.int .i64 y475.f0, .int .i64 y475.f1, .int .u64 y475.f2, .int .u64 y475.f3, .int .i64 y475.f4, .int .i64 y475.f5, str y475.f6, str y475.f7], _, rfl, rfl, rfl⟩ hA hS (fun g477 w hS => ?_) rfl rfl rfl
    refine hK _ [] _ rfl ?_
    refine dEff [0] [6] (by kernel_rfl) ⟨pu rfl rfl [(9, .pointer (some ⟨g380, 0, none⟩))] (fun ac hA => y_ld Tryd.underlying38 (hS.cell 2 rfl 0 _ rfl) hA rfl rfl rfl) rfl rfl, trivial⟩ (by kernel_rfl) (by kernel_rfl) ⟨ef rfl [(56, .slice A429 n430 c431), (61, .slice (some ⟨g477, 0, none⟩) 1 1)] (fun ac hA K hK => ?_) rfl rfl, trivial⟩
    obtain ⟨h478, hF⟩ := chk_some hF
    have hr := hS.rd 0 rfl
    refine z_app 6 inf41 Tryd.underlying38 hA hS hr.1 hr.2.1 h478 rfl (fun A479 n480 c481 w hS => ?_) rfl rfl rfl rfl rfl rfl
    refine hK _ [] _ rfl ?_
    refine dEff [] [7] (by kernel_rfl) trivial (by kernel_rfl) (by kernel_rfl) ⟨ef rfl [(9, .pointer (some ⟨g380, 0, none⟩)), (62, .slice A479 n480 c481)] (fun ac hA K hK => ?_) rfl rfl, trivial⟩
    refine z_stb 3 sz38 hA hS rfl (fun  w hS => ?_) rfl rfl rfl rfl rfl rfl
    refine hK _ [] _ rfl ?_
    refine dEnd [] (by kernel_rfl) trivial ⟨by kernel_rfl, by kernel_rfl⟩ [(1, .int .i64 a1), (8, .pointer (some ⟨g378, 0, none⟩)), (9, .pointer (some ⟨g380, 0, none⟩)), (10, .slice A469 n470 n470), (54, .func (.func 44) #[] #[.pointer (some ⟨g383, 0, none⟩), .pointer (some ⟨g384, 0, none⟩)])] rfl (fun ac hA => ?_)
    refine hK474 _ _ ?_
    refine in_reg hLO (by kernel_rfl) ?_
    refine x_ld Tryd.underlying24 (hS.cell 3 rfl 0 _ rfl) hA (fun ac hA => ?_) rfl rfl rfl rfl rfl rfl
    refine x_m hA rfl fun ac hA => ?_
    replace hS := hS.pk 7
    replace hS := hS.pk 7
    obtain ⟨y482, h483, hF⟩ := bnd hF
    refine x_call en26 hA (F_event_Lay (L := blk g380 38 [.slice A479 n480 c481] :: own k41 41 A479 n480 c481 (l428 ++ [y475]) :: own k41 41 (some ⟨g477, 0, none⟩) 1 1 [y475] :: blk g378 24 [.slice A425 n426 c427] :: blk g383 22 [.slice A0 n0 c0] :: blk g384 3 [.int .i64 64] :: B) l424 l471 A425 n426 c427 A469 n470 n470 h483 h472 (Imm.sub hG0 h423) hS) (fun v ac w hR hA => ?_) rfl rfl rfl rfl rfl
    obtain ⟨Z484, wz485, B486, m487, d488, rfl, h489, hS⟩ := hR
    have h490 := Imm.sub h472 h489
    have h491 := Imm.sub h432 h489
    refine x_stb 5 sz24 hA hS rfl (fun  ac w hS hA => ?_) rfl rfl rfl rfl rfl rfl rfl rfl
    refine wpList_nil ?_
    refine hKx473 _ _ ?_
    replace hS := hS.drop 5
    replace hS := hS.pk 2
    replace hS := hS.pk 4
    replace hS := hS.pk 3
    replace hS := hS.pk 6
    replace hS := hS.pk 6
    replace hS := hS.pk 6
    replace hS := hS.pk 6
    cases hF
    exact hK _ _ [blk g378 24 [.slice B486 m487 d488], blk g380 38 [.slice A479 n480 c481], blk g383 22 [.slice A0 n0 c0], blk g384 3 [.int .i64 64], own (kI .u8) 5 B486 m487 d488 y482, own k41 41 A479 n480 c481 (l428 ++ [y475]), zone Z484 wz485] ⟨Z484, wz485, B486, m487, d488, A479, n480, c481, (Sub.trans h423 h489), h491, rfl⟩ hS
   ·intro D492 E ac w hX hA hS
    obtain ⟨l424, l428⟩ := t467
    try dsimp only at hX
    obtain ⟨Z421, wz422, A425, n426, c427, A429, n430, c431, h423, h432, rfl⟩ := hX
    replace hS : SH r (blk g378 24 [.slice A425 n426 c427] :: blk g380 38 [.slice A429 n430 c431] :: blk g383 22 [.slice A0 n0 c0] :: blk g384 3 [.int .i64 64] :: own (kI .u8) 5 A425 n426 c427 l424 :: own k41 41 A429 n430 c431 l428 :: zone Z421 wz422 :: objP D492 (.deferred (some [])) :: L) w := hS
    replace hF : segment_Write_rx1 a1 l424 l428 = some y := hF
    unfold segment_Write_rx1 at hF
    refine hKx385 _ _ ?_
    refine hK381 _ _ ?_
    refine ws fun K493 hK493 => ?_
    refine x_m hA rfl fun ac hA => ?_
    obtain ⟨x494, h495, hF⟩ := ltt_ hF
    refine x_v (v := .int .u64 x494) hA (rv_i h495 (r_convI Tryd.underlying3 Tryd.underlying31 rfl (hA.ev rfl))) rfl fun ac hA => ?_
    refine x_ld Tryd.underlying38 (hS.cell 1 rfl 0 _ rfl) hA (fun ac hA => ?_) rfl rfl rfl rfl rfl rfl
    refine x_len Tryd.underlying38 (hS.rd 5 rfl).2.1 hA (fun ac hA => ?_) rfl rfl rfl rfl rfl
    obtain ⟨x496, h497, hF⟩ := ltt_ hF
    refine x_v (v := .int .u64 x496) hA (rv_i h497 (r_convI Tryd.underlying3 Tryd.underlying31 rfl (hA.ev rfl))) rfl fun ac hA => ?_
    refine x_bsl (d := (kI .u64)) (e := 31) (ps := #[(0, .int .u64 x494), (1, .int .u64 x496)]) (cells := [.int .u64 x494, .int .u64 x496]) (xs := [x494, x496]) (fun w => by kernel_rfl) rfl ⟨[.int .u64 x494], _, rfl, rfl, ⟨[.int .u64 x496], _, rfl, rfl, rfl⟩⟩ hA hS (fun g498 ac w hS hA => ?_) rfl rfl rfl rfl rfl rfl
    replace hS := SH.nil_own (d := (kI .u8)) (e := 5) hS
    obtain ⟨y499, h500, hF⟩ := bnd hF
    refine x_call en27 hA (F_segment_uints (L := own (kI .u64) 31 (some ⟨g498, 0, none⟩) 2 2 [x494, x496] :: blk g378 24 [.slice A425 n426 c427] :: blk g380 38 [.slice A429 n430 c431] :: blk g383 22 [.slice A0 n0 c0] :: blk g384 3 [.int .i64 64] :: own (kI .u8) 5 A425 n426 c427 l424 :: own k41 41 A429 n430 c431 l428 :: zone Z421 wz422 :: objP D492 (.deferred (some [])) :: L) [] [x494, x496] none 0 0 (some ⟨g498, 0, none⟩) 2 2 h500 (RdL.own 0 rfl (hS.dropN 1)) hS) (fun v ac w hR hA => ?_) rfl rfl rfl rfl rfl
    obtain ⟨B501, m502, d503, rfl, hS⟩ := hR
    refine x_m hA rfl fun ac hA => ?_
    refine wn (hK493 _ _ ?_)
    refine wp_seq_k fun K504 hK504 => ?_
    refine ws fun K816 hK816 => ?_
    refine x_ld Tryd.underlying38 (hS.cell 3 rfl 0 _ rfl) hA (fun ac hA => ?_) rfl rfl rfl rfl rfl rfl
    refine x_len Tryd.underlying38 (hS.rd 7 rfl).2.1 hA (fun ac hA => ?_) rfl rfl rfl rfl rfl
    refine x_m hA rfl fun ac hA => ?_
    refine wn (hK816 _ _ ?_)
    refine wp_block_k fun Kx817 hKx817 => ?_
    have hb2 : ∀ (l970 : (List Int)), segment_Write_b2 l424 l970 = some y → ∀ (A971 : Option Addr) (n972 : Nat) (c973 : Nat) (ac : Act) (w : World), FR 126 [coll D492] ac [(8, .pointer (some ⟨g378, 0, none⟩)), (11, .slice A971 n972 c973)] → SH r (blk g378 24 [.slice A425 n426 c427] :: own (kI .u8) 5 A425 n426 c427 l424 :: own (kI .u8) 5 A971 n972 c973 l970 :: zone Z421 wz422 :: objP D492 (.deferred (some [])) :: L) w → Kx817 ac w := by
     intro l970 hF A971 n972 c973 ac w hA hS
     unfold segment_Write_b2 at hF
     refine hKx817 _ _ ?_
     refine hK504 _ _ ?_
     refine ws fun K974 hK974 => ?_
     refine x_ld Tryd.underlying24 (hS.cell 0 rfl 0 _ rfl) hA (fun ac hA => ?_) rfl rfl rfl rfl rfl rfl
     refine x_len Tryd.underlying24 (hS.rd 1 rfl).2.1 hA (fun ac hA => ?_) rfl rfl rfl rfl rfl
     refine x_m hA rfl fun ac hA => ?_
     refine wn (hK974 _ _ ?_)
     refine ws fun K975 hK975 => ?_
     refine x_ld Tryd.underlying24 (hS.cell 0 rfl 0 _ rfl) hA (fun ac hA => ?_) rfl rfl rfl rfl rfl rfl
     refine x_m hA rfl fun ac hA => ?_
     replace hS := hS.pk 1
     obtain ⟨y976, h977, hF⟩ := bnd hF
     refine x_call en30 hA (F_page_Lay (L := blk g378 24 [.slice A425 n426 c427] :: own (kI .u8) 5 A971 n972 c973 l970 :: zone Z421 wz422 :: objP D492 (.deferred (some [])) :: L) l424 102 l970 A425 n426 c427 A971 n972 c973 h977 2 rfl (RdL.own 1 rfl (hS.dropN 1)) (Imm.sub hG0 h423) hS) (fun v ac w hR hA => ?_) rfl rfl rfl rfl rfl
     obtain ⟨B978, m979, d980, rfl, hS⟩ := hR
     refine x_stb 1 sz24 hA hS rfl (fun  ac w hS hA => ?_) rfl rfl rfl rfl rfl rfl rfl rfl
     refine wn (hK975 _ _ ?_)
     refine ws fun K981 hK981 => ?_
     refine x_ld Tryd.underlying24 (hS.cell 0 rfl 0 _ rfl) hA (fun ac hA => ?_) rfl rfl rfl rfl rfl rfl
     refine x_m hA rfl fun ac hA => ?_
     obtain ⟨x982, h983, hF⟩ := ltt_ hF
     refine x_v (v := .int .u8 x982) hA (rv_i h983 (r_convI Tryd.underlying3 Tryd.underlying5 rfl (hA.ev rfl))) rfl fun ac hA => ?_
     refine x_m hA rfl fun ac hA => ?_
     obtain ⟨x984, h985, hF⟩ := ltt_ hF
     refine x_v (v := .int .i64 x984) hA (rv_i h985 (r_shr rfl (hA.ev rfl) (hA.ev rfl) (by decide))) rfl fun ac hA => ?_
     obtain ⟨x986, h987, hF⟩ := ltt_ hF
     refine x_v (v := .int .u8 x986) hA (rv_i h987 (r_convI Tryd.underlying3 Tryd.underlying5 rfl (hA.ev rfl))) rfl fun ac hA => ?_
     refine x_m hA rfl fun ac hA => ?_
     obtain ⟨x988, h989, hF⟩ := ltt_ hF
     refine x_v (v := .int .i64 x988) hA (rv_i h989 (r_shr rfl (hA.ev rfl) (hA.ev rfl) (by decide))) rfl fun ac hA => ?_
     obtain ⟨x990, h991, hF⟩ := ltt_ hF
     refine x_v (v := .int .u8 x990) hA (rv_i h991 (r_convI Tryd.underlying3 Tryd.underlying5 rfl (hA.ev rfl))) rfl fun ac hA => ?_
     refine x_m hA rfl fun ac hA => ?_
     obtain ⟨x992, h993, hF⟩ := ltt_ hF
     refine x_v (v := .int .i64 x992) hA (rv_i h993 (r_shr rfl (hA.ev rfl) (hA.ev rfl) (by decide))) rfl fun ac hA => ?_
     obtain ⟨x994, h995, hF⟩ := ltt_ hF
     refine x_v (v := .int .u8 x994) hA (rv_i h995 (r_convI Tryd.underlying3 Tryd.underlying5 rfl (hA.ev rfl))) rfl fun ac hA => ?_
     refine x_bsl (d := (kI .u8)) (e := 5) (ps := #[(0, .int .u8 x982), (1, .int .u8 x986), (2, .int .u8 x990), (3, .int .u8 x994)]) (cells := [.int .u8 x982, .int .u8 x986, .int .u8 x990, .int .u8 x994]) (xs := [x982, x986, x990, x994]) (fun w => by kernel_rfl) rfl ⟨[.int .u8 x982], _, rfl, rfl, ⟨[.int .u8 x986], _, rfl, rfl, ⟨[.int .u8 x990], _, rfl, rfl, ⟨[.int .u8 x994], _, rfl, rfl, rfl⟩⟩⟩⟩ hA hS (fun g996 ac w hS hA => ?_) rfl rfl rfl rfl rfl rfl
     replace hS := hS.pk 2
     obtain ⟨y997, h998, hF⟩ := bnd hF
     refine x_call en30 hA (F_page_Lay (L := own (kI .u8) 5 (some ⟨g996, 0, none⟩) 4 4 [x982, x986, x990, x994] :: blk g378 24 [.slice B978 m979 d980] :: own (kI .u8) 5 A971 n972 c973 l970 :: zone Z421 wz422 :: objP D492 (.deferred (some [])) :: L) y976 116 [x982, x986, x990, x994] B978 m979 d980 (some ⟨g996, 0, none⟩) 4 4 h998 3 rfl (RdL.own 0 rfl (hS.dropN 1)) (Imm.sub hG0 h423) hS) (fun v ac w hR hA => ?_) rfl rfl rfl rfl rfl
     obtain ⟨B999, m1000, d1001, rfl, hS⟩ := hR
     refine x_m hA rfl fun ac hA => ?_
     refine x_m hA rfl fun ac hA => ?_
     refine wn (hK981 _ _ ?_)
     refine wp_ret ?_
     replace hS := hS.drop 1
     replace hS := hS.drop 1
     replace hS := hS.drop 1
     replace hS := hS.pk 1
     replace hS := hS.pk 1
     cases hF
     refine hQD _ _ _ _ _ _ hA (hS.pk 2) fun ac w hA hS => ?_
     refine lv2 Tryd.results11 hA rfl rfl ?_
     exact ⟨Z421, wz422, B999, m1000, d1001, rfl, h423, hS⟩
    obtain ⟨t1108, hl1108, hF⟩ := bnd hF
    have hx1108_5 : ∀ (l1105 : (List Int)), (l1105) = t1108 → ∀ (A1106 : Option Addr) (n1107 : Nat) (c1108 : Nat) (ac : Act) (w : World), FR 126 [coll D492] ac [(8, .pointer (some ⟨g378, 0, none⟩)), (11, .slice A1106 n1107 c1108)] → SH r (blk g378 24 [.slice A425 n426 c427] :: own (kI .u8) 5 A425 n426 c427 l424 :: own (kI .u8) 5 A1106 n1107 c1108 l1105 :: zone Z421 wz422 :: objP D492 (.deferred (some [])) :: L) w → Kx817 ac w := by
     intro l1105 ht A1106 n1107 c1108 ac w hA hS
     subst ht
     replace hF : segment_Write_x1_5 l424 l1105 = some y := hF
     unfold segment_Write_x1_5 at hF
     exact hb2 l1105 hF A1106 n1107 c1108 ac w (hA.sub _ rfl) hS
    replace hS := hS.drop 1
    replace hS := hS.drop 2
    replace hS := hS.drop 2
    replace hS := hS.drop 2
    replace hS := hS.pk 4
    replace hS := hS.pk 4
    replace hS := hS.pk 2
    replace hS := hS.pk 4
    replace hS := hS.pk 4
    refine wp_loop_fn hl1108 (fun s ac w => ∃ (A1052 : Option Addr) (n1053 : Nat) (c1054 : Nat), FR 126 [coll D492] ac [(8, .pointer (some ⟨g378, 0, none⟩)), (11, .slice A1052 n1053 c1054), (73, .slice A429 n430 c431), (74, .int .i64 (l428.length : Int)), (75, .int .i64 s.2)] ∧ SH r (blk g378 24 [.slice A425 n426 c427] :: own (kI .u8) 5 A425 n426 c427 l424 :: own (kI .u8) 5 A1052 n1053 c1054 s.1 :: own k41 41 A429 n430 c431 l428 :: zone Z421 wz422 :: objP D492 (.deferred (some [])) :: L) w) ⟨B501, m502, d503, hA.sub _ rfl, hS⟩ ?_
    intro N1108 s1108 o1108 hF N1108_ T1108_ ac w hLab
    obtain ⟨l1051, x1055⟩ := s1108
    replace hF : segment_Write_l1 l428 l1051 x1055 = some o1108 := hF
    unfold segment_Write_l1 at hF
    try dsimp only at hLab
    obtain ⟨A1052, n1053, c1054, hA, hS⟩ := hLab
    refine ws fun K1110 hK1110 => ?_
    refine x_v hA (r_ltI rfl (hA.ev rfl) (hA.ev rfl)) rfl fun ac hA => ?_
    refine wn (hK1110 _ _ ?_)
    refine wp_seq_k fun K1111 hK1111 => ?_
    refine c_if hA rfl (fun hb1112 => ?_) fun hb1112 => ?_
    ·replace hF := ift hb1112 hF
     refine wp_skip ?_
     refine hK1111 _ _ ?_
     refine wp_seq_k fun K1113 hK1113 => ?_
     refine wp_block_k fun Kx1114 hKx1114 => ?_
     refine ws fun K1115 hK1115 => ?_
     obtain ⟨x1116, h1117, hF⟩ := bnd hF
     refine x_ia Tryd.underlying38 sz41 (hS.rd 3 rfl) h1117 hA (fun ac hA => ?_) rfl rfl rfl rfl rfl rfl
     obtain ⟨cs, hV, hc1118⟩ := el (hS.rd 3 rfl) h1117
     obtain rfl := hV
     refine x_lda (cs := [.int .i64 x1116.f0, .int .i64 x1116.f1, .int .u64 x1116.f2, .int .u64 x1116.f3, .int .i64 x1116.f4, .int .i64 x1116.f5, str x1116.f6, str x1116.f7]) Tryd.underlying41 sz41 (fun j u h => by rw [ea_add]; exact hc1118 _ _ h) hA (fun ac hA => ?_) rfl rfl rfl rfl rfl rfl
     refine x_alloc (cs := [.int .i64 0, .int .i64 0, .int .u64 0, .int .u64 0, .int .i64 0, .int .i64 0, str [], str []]) zr41 hA hS (fun g1119 ac w hS hA => ?_) rfl rfl rfl rfl rfl
     refine x_stb 0 sz41 hA hS rfl (fun  ac w hS hA => ?_) rfl rfl rfl rfl rfl rfl rfl rfl
     refine wn (hK1115 _ _ ?_)
     refine ws fun K1120 hK1120 => ?_
     refine x_m hA rfl fun ac hA => ?_
     refine x_fab fa41_0 hA (fun ac hA => ?_) rfl rfl rfl rfl rfl
     refine x_ld Tryd.underlying3 (hS.cell 0 rfl 0 _ rfl) hA (fun ac hA => ?_) rfl rfl rfl rfl rfl rfl
     obtain ⟨x1121, h1122, hF⟩ := ltt_ hF
     refine x_v (v := .int .u64 x1121) hA (rv_i h1122 (r_convI Tryd.underlying3 Tryd.underlying31 rfl (hA.ev rfl))) rfl fun ac hA => ?_
     refine x_fab fa41_1 hA (fun ac hA => ?_) rfl rfl rfl rfl rfl
     refine x_ld Tryd.underlying3 (hS.cell 0 rfl 1 _ rfl) hA (fun ac hA => ?_) rfl rfl rfl rfl rfl rfl
     obtain ⟨x1123, h1124, hF⟩ := ltt_ hF
     refine x_v (v := .int .u64 x1123) hA (rv_i h1124 (r_convI Tryd.underlying3 Tryd.underlying31 rfl (hA.ev rfl))) rfl fun ac hA => ?_
     refine x_fab fa41_2 hA (fun ac hA => ?_) rfl rfl rfl rfl rfl
     refine x_ld Tryd.underlying31 (hS.cell 0 rfl 2 _ rfl) hA (fun ac hA => ?_) rfl rfl rfl rfl rfl rfl
     refine x_fab fa41_3 hA (fun ac hA => ?_) rfl rfl rfl rfl rfl
     refine x_ld Tryd.underlying31 (hS.cell 0 rfl 3 _ rfl) hA (fun ac hA => ?_) rfl rfl rfl rfl rfl rfl
     refine x_bsl (d := (kI .u64)) (e := 31) (ps := #[(0, .int .u64 x1121), (1, .int .u64 x1123), (2, .int .u64 x1116.f2), (3, .int .u64 x1116.f3)]) (cells := [.int .u64 x1121, .int .u64 x1123, .int .u64 x1116.f2, .int .u64 x1116.f3]) (xs := [x1121, x1123, x1116.f2, x1116.f3]) (fun w => by kernel_rfl) rfl ⟨[.int .u64 x1121], _, rfl, rfl, ⟨[.int .u64 x1123], _, rfl, rfl, ⟨[.int .u64 x1116.f2], _, rfl, rfl, ⟨[.int .u64 x1116.f3], _, rfl, rfl, rfl⟩⟩⟩⟩ hA hS (fun g1125 ac w hS hA => ?_) rfl rfl rfl rfl rfl rfl
     replace hS := hS.pk 4
     obtain ⟨y1126, h1127, hF⟩ := bnd hF
     refine x_call en27 hA (F_segment_uints (L := own (kI .u64) 31 (some ⟨g1125, 0, none⟩) 4 4 [x1121, x1123, x1116.f2, x1116.f3] :: blk g1119 41 [.int .i64 x1116.f0, .int .i64 x1116.f1, .int .u64 x1116.f2, .int .u64 x1116.f3, .int .i64 x1116.f4, .int .i64 x1116.f5, str x1116.f6, str x1116.f7] :: blk g378 24 [.slice A425 n426 c427] :: own (kI .u8) 5 A425 n426 c427 l424 :: own k41 41 A429 n430 c431 l428 :: zone Z421 wz422 :: objP D492 (.deferred (some [])) :: L) l1051 [x1121, x1123, x1116.f2, x1116.f3] A1052 n1053 c1054 (some ⟨g1125, 0, none⟩) 4 4 h1127 (RdL.own 0 rfl (hS.dropN 1)) hS) (fun v ac w hR hA => ?_) rfl rfl rfl rfl rfl
     obtain ⟨B1128, m1129, d1130, rfl, hS⟩ := hR
     refine x_m hA rfl fun ac hA => ?_
     refine wn (hK1120 _ _ ?_)
     refine wp_seq_k fun K1131 hK1131 => ?_
     refine wp_draw [0, 0, 2, 7, 0, 16, 63, 127] [3, 6] rfl hA hS (by kernel_rfl) (by kernel_rfl) (by kernel_rfl) (by kernel_rfl) fun w hS => ?_
     refine ⟨[(0, .slice B1128 m1129 d1130), (1, .pointer (some ⟨g1119, 4, none⟩)), (2, .int .i64 x1116.f4), (4, .pointer (some ⟨g1119, 5, none⟩)), (5, .int .i64 x1116.f5)], ?_⟩
     refine dEff [0, 1, 2, 4, 5] [3] (by kernel_rfl) ⟨pu rfl rfl [(11, .slice B1128 m1129 d1130)] (fun ac hA => y_move hA rfl rfl) rfl rfl, pu rfl rfl [(13, .pointer (some ⟨g1119, 0, none⟩))] (fun ac hA => y_fab fa41_4 hA rfl rfl) rfl rfl, pu rfl rfl [(93, .pointer (some ⟨g1119, 4, none⟩))] (fun ac hA => y_ld Tryd.underlying2 (hS.cell 2 rfl 4 _ rfl) hA rfl rfl rfl) rfl rfl, pu rfl rfl [(13, .pointer (some ⟨g1119, 0, none⟩))] (fun ac hA => y_fab fa41_5 hA rfl rfl) rfl rfl, pu rfl rfl [(96, .pointer (some ⟨g1119, 5, none⟩))] (fun ac hA => y_ld Tryd.underlying2 (hS.cell 2 rfl 5 _ rfl) hA rfl rfl rfl) rfl rfl, trivial⟩ (by kernel_rfl) (by kernel_rfl) ⟨ef rfl [(92, .slice B1128 m1129 d1130), (94, .int .i64 x1116.f4)] (fun ac hA K hK => ?_) rfl rfl, trivial⟩
     obtain ⟨y1132, h1133, hF⟩ := bnd hF
     refine z_call en28 hA (F_column_Int (L := own (kI .u64) 31 (some ⟨g1125, 0, none⟩) 4 4 [x1121, x1123, x1116.f2, x1116.f3] :: blk g1119 41 [.int .i64 x1116.f0, .int .i64 x1116.f1, .int .u64 x1116.f2, .int .u64 x1116.f3, .int .i64 x1116.f4, .int .i64 x1116.f5, str x1116.f6, str x1116.f7] :: blk g378 24 [.slice A425 n426 c427] :: own (kI .u8) 5 A425 n426 c427 l424 :: own k41 41 A429 n430 c431 l428 :: zone Z421 wz422 :: objP D492 (.deferred (some [])) :: L) y1126 x1116.f4 B1128 m1129 d1130 h1133 hS) (fun v w hR => ?_) rfl rfl
     obtain ⟨B1134, m1135, d1136, rfl, hS⟩ := hR
     refine hK _ [] _ rfl ?_
     refine dEff [4, 5] [6] (by kernel_rfl) ⟨pu rfl rfl [(13, .pointer (some ⟨g1119, 0, none⟩))] (fun ac hA => y_fab fa41_5 hA rfl rfl) rfl rfl, pu rfl rfl [(96, .pointer (some ⟨g1119, 5, none⟩))] (fun ac hA => y_ld Tryd.underlying2 (hS.cell 2 rfl 5 _ rfl) hA rfl rfl rfl) rfl rfl, trivial⟩ (by kernel_rfl) (by kernel_rfl) ⟨ef rfl [(95, .slice B1134 m1135 d1136), (97, .int .i64 x1116.f5)] (fun ac hA K hK => ?_) rfl rfl, trivial⟩
     obtain ⟨y1137, h1138, hF⟩ := bnd hF
     refine z_call en28 hA (F_column_Int (L := own (kI .u64) 31 (some ⟨g1125, 0, none⟩) 4 4 [x1121, x1123, x1116.f2, x1116.f3] :: blk g1119 41 [.int .i64 x1116.f0, .int .i64 x1116.f1, .int .u64 x1116.f2, .int .u64 x1116.f3, .int .i64 x1116.f4, .int .i64 x1116.f5, str x1116.f6, str x1116.f7] :: blk g378 24 [.slice A425 n426 c427] :: own (kI .u8) 5 A425 n426 c427 l424 :: own k41 41 A429 n430 c431 l428 :: zone Z421 wz422 :: objP D492 (.deferred (some [])) :: L) y1132 x1116.f5 B1134 m1135 d1136 h1138 hS) (fun v w hR => ?_) rfl rfl
     obtain ⟨B1139, m1140, d1141, rfl, hS⟩ := hR
     refine hK _ [(7, .slice B1139 m1140 d1141)] _ rfl ?_
     refine dEnd [7] (by kernel_rfl) ⟨pu rfl rfl [(98, .slice B1139 m1140 d1141)] (fun ac hA => y_assign hA rfl rfl) rfl rfl, trivial⟩ ⟨by kernel_rfl, by kernel_rfl⟩ [(8, .pointer (some ⟨g378, 0, none⟩)), (11, .slice B1139 m1140 d1141), (13, .pointer (some ⟨g1119, 0, none⟩)), (73, .slice A429 n430 c431), (74, .int .i64 (l428.length : Int)), (75, .int .i64 x1055)] rfl (fun ac hA => ?_)
     refine hK1131 _ _ ?_
     refine wp_draw [0, 0, 2, 7, 0, 16, 63, 127] [3, 6] rfl hA hS (by kernel_rfl) (by kernel_rfl) (by kernel_rfl) (by kernel_rfl) fun w hS => ?_
     refine ⟨[(0, .slice B1139 m1140 d1141), (1, .pointer (some ⟨g1119, 6, none⟩)), (2, str x1116.f6), (4, .pointer (some ⟨g1119, 7, none⟩)), (5, str x1116.f7)], ?_⟩
     refine dEff [0, 1, 2, 4, 5] [3] (by kernel_rfl) ⟨pu rfl rfl [(11, .slice B1139 m1140 d1141)] (fun ac hA => y_move hA rfl rfl) rfl rfl, pu rfl rfl [(13, .pointer (some ⟨g1119, 0, none⟩))] (fun ac hA => y_fab fa41_6 hA rfl rfl) rfl rfl, pu rfl rfl [(100, .pointer (some ⟨g1119, 6, none⟩))] (fun ac hA => y_ld Tryd.underlying9 (hS.cell 2 rfl 6 _ rfl) hA rfl rfl rfl) rfl rfl, pu rfl rfl [(13, .pointer (some ⟨g1119, 0, none⟩))] (fun ac hA => y_fab fa41_7 hA rfl rfl) rfl rfl, pu rfl rfl [(103, .pointer (some ⟨g1119, 7, none⟩))] (fun ac hA => y_ld Tryd.underlying9 (hS.cell 2 rfl 7 _ rfl) hA rfl rfl rfl) rfl rfl, trivial⟩ (by kernel_rfl) (by kernel_rfl) ⟨ef rfl [(99, .slice B1139 m1140 d1141), (101, str x1116.f6)] (fun ac hA K hK => ?_) rfl rfl, trivial⟩
     obtain ⟨y1142, h1143, hF⟩ := bnd hF
     refine z_call en29 hA (F_column_Text (L := own (kI .u64) 31 (some ⟨g1125, 0, none⟩) 4 4 [x1121, x1123, x1116.f2, x1116.f3] :: blk g1119 41 [.int .i64 x1116.f0, .int .i64 x1116.f1, .int .u64 x1116.f2, .int .u64 x1116.f3, .int .i64 x1116.f4, .int .i64 x1116.f5, str x1116.f6, str x1116.f7] :: blk g378 24 [.slice A425 n426 c427] :: own (kI .u8) 5 A425 n426 c427 l424 :: own k41 41 A429 n430 c431 l428 :: zone Z421 wz422 :: objP D492 (.deferred (some [])) :: L) y1137 x1116.f6 B1139 m1140 d1141 h1143 hS) (fun v w hR => ?_) rfl rfl
     obtain ⟨B1144, m1145, d1146, rfl, hS⟩ := hR
     refine hK _ [] _ rfl ?_
     refine dEff [4, 5] [6] (by kernel_rfl) ⟨pu rfl rfl [(13, .pointer (some ⟨g1119, 0, none⟩))] (fun ac hA => y_fab fa41_7 hA rfl rfl) rfl rfl, pu rfl rfl [(103, .pointer (some ⟨g1119, 7, none⟩))] (fun ac hA => y_ld Tryd.underlying9 (hS.cell 2 rfl 7 _ rfl) hA rfl rfl rfl) rfl rfl, trivial⟩ (by kernel_rfl) (by kernel_rfl) ⟨ef rfl [(102, .slice B1144 m1145 d1146), (104, str x1116.f7)] (fun ac hA K hK => ?_) rfl rfl, trivial⟩
     obtain ⟨y1147, h1148, hF⟩ := bnd hF
     refine z_call en29 hA (F_column_Text (L := own (kI .u64) 31 (some ⟨g1125, 0, none⟩) 4 4 [x1121, x1123, x1116.f2, x1116.f3] :: blk g1119 41 [.int .i64 x1116.f0, .int .i64 x1116.f1, .int .u64 x1116.f2, .int .u64 x1116.f3, .int .i64 x1116.f4, .int .i64 x1116.f5, str x1116.f6, str x1116.f7] :: blk g378 24 [.slice A425 n426 c427] :: own (kI .u8) 5 A425 n426 c427 l424 :: own k41 41 A429 n430 c431 l428 :: zone Z421 wz422 :: objP D492 (.deferred (some [])) :: L) y1142 x1116.f7 B1144 m1145 d1146 h1148 hS) (fun v w hR => ?_) rfl rfl
     obtain ⟨B1149, m1150, d1151, rfl, hS⟩ := hR
     refine hK _ [(7, .slice B1149 m1150 d1151)] _ rfl ?_
     refine dEnd [7] (by kernel_rfl) ⟨pu rfl rfl [(105, .slice B1149 m1150 d1151)] (fun ac hA => y_assign hA rfl rfl) rfl rfl, trivial⟩ ⟨by kernel_rfl, by kernel_rfl⟩ [(8, .pointer (some ⟨g378, 0, none⟩)), (11, .slice B1149 m1150 d1151), (73, .slice A429 n430 c431), (74, .int .i64 (l428.length : Int)), (75, .int .i64 x1055)] rfl (fun ac hA => ?_)
     refine hKx1114 _ _ ?_
     refine hK1113 _ _ ?_
     refine wp_reg ?_
     obtain ⟨x1152, h1153, hF⟩ := ltt_ hF
     refine x_v (v := .int .i64 x1152) hA (rv_i h1153 (r_add rfl (hA.ev rfl) (hA.ev rfl))) rfl fun ac hA => ?_
     refine x_m hA rfl fun ac hA => ?_
     refine wpList_nil ?_
     replace hS := hS.drop 1
     replace hS := hS.drop 1
     replace hS := hS.pk 4
     replace hS := hS.pk 4
     replace hS := hS.pk 2
     replace hS := hS.pk 4
     replace hS := hS.pk 4
     cases hF
     exact ⟨_, N1108_ _ rfl, B1149, m1150, d1151, hA.sub _ rfl, hS⟩
    replace hF := iff' hb1112 hF
    refine wp_exit ?_
    replace hS := hS.drop 3
    cases hF
    exact hx1108_5 l1051 (T1108_ _ rfl) A1052 n1053 c1054 ac w (hA.sub _ rfl) hS
  obtain ⟨t1210, hl1210, hF⟩ := bnd hF
  have hR1210 := hF
  have hx1210_1 : (.inl ()) = t1210 → ∀ (ac : Act) (w : World), FR 126 [] ac [(0, .slice A0 n0 c0), (1, .int .i64 a1)] → SH r (zone Z wz :: L) w → Kx290 ac w := by
   intro ht ac w hA hS
   subst ht
   replace hF : segment_Write_x2_1 a0 a1 = some y := hF
   unfold segment_Write_x2_1 at hF
   exact hb1 hF ac w (hA.sub _ rfl) hS
  refine wp_loop_fn hl1210 (fun s ac w => FR 126 [] ac [(0, .slice A0 n0 c0), (1, .int .i64 a1), (31, .slice A0 n0 c0), (32, .int .i64 (a0.length : Int)), (33, .int .i64 s)] ∧ SH r (zone Z wz :: L) w) ⟨hA.sub _ rfl, hS⟩ ?_
  intro N1210 s1210 o1210 hF N1210_ T1210_ ac w hLab
  obtain ⟨x1181, rfl⟩ : ∃ q, q = s1210 := ⟨_, rfl⟩
  replace hF : segment_Write_l2 a0 a1 x1181 = some o1210 := hF
  unfold segment_Write_l2 at hF
  try dsimp only at hLab
  obtain ⟨hA, hS⟩ := hLab
  refine ws fun K1212 hK1212 => ?_
  refine x_v hA (r_ltI rfl (hA.ev rfl) (hA.ev rfl)) rfl fun ac hA => ?_
  refine wn (hK1212 _ _ ?_)
  refine wp_seq_k fun K1213 hK1213 => ?_
  refine c_if hA rfl (fun hb1214 => ?_) fun hb1214 => ?_
  ·replace hF := ift hb1214 hF
   refine wp_skip ?_
   refine hK1213 _ _ ?_
   refine wp_seq_k fun K1215 hK1215 => ?_
   refine wp_block_k fun Kx1216 hKx1216 => ?_
   refine ws fun K1217 hK1217 => ?_
   refine x_m hA rfl fun ac hA => ?_
   obtain ⟨x1218, h1219, hF⟩ := bnd hF
   refine x_ia Tryd.underlying22 sz44 (hS.imm 0 ha0 rfl) h1219 hA (fun ac hA => ?_) rfl rfl rfl rfl rfl rfl
   obtain ⟨cs, hV, hc1220⟩ := el (hS.imm 0 ha0 rfl) h1219
   obtain rfl := hV
   refine x_lda (cs := [.int .u64 x1218.f0, .int .i64 x1218.f1, .int .i64 x1218.f2, str x1218.f3, .float .f64 x1218.f4]) Tryd.underlying44 sz44 (fun j u h => by rw [ea_add]; exact hc1220 _ _ h) hA (fun ac hA => ?_) rfl rfl rfl rfl rfl rfl
   refine x_alloc (cs := [.int .u64 0, .int .i64 0, .int .i64 0, str [], .float .f64 0]) zr44 hA hS (fun g1221 ac w hS hA => ?_) rfl rfl rfl rfl rfl
   refine x_m hA rfl fun ac hA => ?_
   refine x_stb 0 sz44 hA hS rfl (fun  ac w hS hA => ?_) rfl rfl rfl rfl rfl rfl rfl rfl
   refine wn (hK1217 _ _ ?_)
   refine wp_seq_k fun K1222 hK1222 => ?_
   refine ws fun K1223 hK1223 => ?_
   refine x_lda (ad := ⟨g1221, 0, none⟩) (cs := [.int .u64 x1218.f0, .int .i64 x1218.f1, .int .i64 x1218.f2, str x1218.f3, .float .f64 x1218.f4]) Tryd.underlying44 sz44 (fun j u h => by rw [add_mk, Nat.zero_add]; exact hS.cell 0 rfl j u h) hA (fun ac hA => ?_) rfl rfl rfl rfl rfl rfl
   refine x_m hA rfl fun ac hA => ?_
   obtain ⟨y1224, h1225, hF⟩ := bnd hF
   refine x_call en23 hA (F_event_Form (L := blk g1221 44 [.int .u64 x1218.f0, .int .i64 x1218.f1, .int .i64 x1218.f2, str x1218.f3, .float .f64 x1218.f4] :: zone Z wz :: L) x1218 a1 h1225 hS) (fun v ac w hR hA => ?_) rfl rfl rfl rfl rfl
   obtain ⟨rfl, hS⟩ := hR
   refine x_v hA (r_not rfl (hA.ev rfl)) rfl fun ac hA => ?_
   refine wn (hK1223 _ _ ?_)
   refine c_if hA rfl (fun hb1226 => ?_) fun hb1226 => ?_
   ·replace hF := ift hb1226 hF
    refine ws fun K1227 hK1227 => ?_
    refine x_m hA rfl fun ac hA => ?_
    refine x_m hA rfl fun ac hA => ?_
    refine wn (hK1227 _ _ ?_)
    refine wp_ret ?_
    replace hS := SH.nil_own (d := (kI .u8)) (e := 5) hS
    replace hS := hS.drop 1
    replace hS := hS.pk 1
    replace hS := hS.pk 1
    cases hF
    have ht := T1210_ _ rfl
    subst ht
    replace hF := hR1210
    replace hF : some ([], 3) = some y := hF
    cases hF
    refine hQ _ _ ?_
    refine lv2 Tryd.results11 hA rfl rfl ?_
    exact ⟨Z, wz, none, 0, 0, rfl, (Sub.refl _ _), hS⟩
   replace hF := iff' hb1226 hF
   refine wp_skip ?_
   refine hK1222 _ _ ?_
   refine wp_seq_k fun K1228 hK1228 => ?_
   refine wp_draw [0, 1, 0, 4, 12, 28, 0, 64, 252, 511] [] rfl hA hS (by kernel_rfl) (by kernel_rfl) (by kernel_rfl) (by kernel_rfl) fun w hS => ?_
   obtain ⟨x1229, h1230, hF⟩ := bnd hF
   obtain ⟨cs, hV, hc1231⟩ := el (hS.imm 1 ha0 rfl) h1230
   obtain rfl := hV
   obtain ⟨x1232, h1233, hF⟩ := ltt_ hF
   obtain ⟨x1234, h1235, hF⟩ := ltt_ hF
   refine ⟨[(0, .pointer (some ⟨g1221, 0, none⟩)), (1, .int .u64 x1218.f0), (2, .slice A0 n0 c0), (3, .pointer (some (ea A0 ((0 : Int).toNat * 5)))), (4, .pointer (some (ea A0 ((0 : Int).toNat * 5)))), (5, .int .u64 x1229.f0), (6, .int .i64 x1181), (7, .int .u64 x1232), (8, .int .u64 x1234), (9, .bool (x1218.f0 != x1234))], ?_⟩
   refine dEnd [0, 1, 2, 3, 4, 5, 6, 7, 8, 9] (by kernel_rfl) ⟨pu rfl rfl [(7, .pointer (some ⟨g1221, 0, none⟩))] (fun ac hA => y_fab fa44_0 hA rfl rfl) rfl rfl, pu rfl rfl [(42, .pointer (some ⟨g1221, 0, none⟩))] (fun ac hA => y_ld Tryd.underlying31 (hS.cell 0 rfl 0 _ rfl) hA rfl rfl rfl) rfl rfl, pu rfl rfl [(0, .slice A0 n0 c0)] (fun ac hA => y_move hA rfl rfl) rfl rfl, pu rfl rfl [(44, .slice A0 n0 c0)] (fun ac hA => y_ia Tryd.underlying22 sz44 (hS.imm 1 ha0 rfl) h1230 hA rfl rfl rfl) rfl rfl, pu rfl rfl [(45, .pointer (some (ea A0 ((0 : Int).toNat * 5))))] (fun ac hA => y_fae (m := (0 : Int).toNat * 5) fa44_0 hA rfl rfl) rfl rfl, pu rfl rfl [(46, .pointer (some (ea A0 ((0 : Int).toNat * 5))))] (fun ac hA => y_ld Tryd.underlying31 (hc1231 0 _ rfl) hA rfl rfl rfl) rfl rfl, pu rfl rfl [(6, .int .i64 x1181)] (fun ac hA => y_move hA rfl rfl) rfl rfl, pu rfl rfl [(48, .int .i64 x1181)] (fun ac hA => (rv_i h1233 (r_convI Tryd.underlying3 Tryd.underlying31 rfl (hA.ev rfl)) : RunV _ _ _ _ (.int .u64 x1232))) rfl rfl, pu rfl rfl [(47, .int .u64 x1229.f0), (49, .int .u64 x1232)] (fun ac hA => (rv_i h1235 (r_add rfl (hA.ev rfl) (hA.ev rfl)) : RunV _ _ _ _ (.int .u64 x1234))) rfl rfl, pu rfl rfl [(43, .int .u64 x1218.f0), (50, .int .u64 x1234)] (fun ac hA => r_neI rfl (hA.ev rfl) (hA.ev rfl)) rfl rfl, trivial⟩ ⟨by kernel_rfl, by kernel_rfl⟩ [(0, .slice A0 n0 c0), (1, .int .i64 a1), (31, .slice A0 n0 c0), (32, .int .i64 (a0.length : Int)), (33, .int .i64 x1181), (51, .bool (x1218.f0 != x1234))] rfl (fun ac hA => ?_)
   refine hK1228 _ _ ?_
   refine c_if hA rfl (fun hb1236 => ?_) fun hb1236 => ?_
   ·replace hF := ift hb1236 hF
    refine ws fun K1237 hK1237 => ?_
    refine x_m hA rfl fun ac hA => ?_
    refine x_m hA rfl fun ac hA => ?_
    refine wn (hK1237 _ _ ?_)
    refine wp_ret ?_
    replace hS := SH.nil_own (d := (kI .u8)) (e := 5) hS
    replace hS := hS.drop 1
    replace hS := hS.pk 1
    replace hS := hS.pk 1
    cases hF
    have ht := T1210_ _ rfl
    subst ht
    replace hF := hR1210
    replace hF : some ([], 8) = some y := hF
    cases hF
    refine hQ _ _ ?_
    refine lv2 Tryd.results11 hA rfl rfl ?_
    exact ⟨Z, wz, none, 0, 0, rfl, (Sub.refl _ _), hS⟩
   replace hF := iff' hb1236 hF
   refine wp_skip ?_
   refine hKx1216 _ _ ?_
   refine hK1215 _ _ ?_
   refine wp_reg ?_
   obtain ⟨x1238, h1239, hF⟩ := ltt_ hF
   refine x_v (v := .int .i64 x1238) hA (rv_i h1239 (r_add rfl (hA.ev rfl) (hA.ev rfl))) rfl fun ac hA => ?_
   refine x_m hA rfl fun ac hA => ?_
   refine wpList_nil ?_
   replace hS := hS.drop 0
   cases hF
   exact ⟨_, N1210_ _ rfl, hA.sub _ rfl, hS⟩
  replace hF := iff' hb1214 hF
  refine wp_exit ?_
  cases hF
  exact hx1210_1 (T1210_ _ rfl) ac w (hA.sub _ rfl) hS
 refine wp_reg ?_
 refine x_m hA rfl fun ac hA => ?_
 refine x_len Tryd.underlying22 (hS.imm 0 ha0 rfl).2.1 hA (fun ac hA => ?_) rfl rfl rfl rfl rfl
 refine x_v hA (r_eqI rfl (hA.ev rfl) (hA.ev rfl)) rfl fun ac hA => ?_
 refine x_m hA rfl fun ac hA => ?_
 refine bcase (b := (a0.length : Int) == 0) (fun hb1240 => ?_) fun hb1240 => ?_
 ·replace hF := ift hb1240 hF
  refine x_off hb1240 hA (fun ac hA => ?_) rfl rfl rfl rfl rfl
  refine x_off hb1240 hA (fun ac hA => ?_) rfl rfl rfl rfl rfl
  refine x_pickt hb1240 hA (fun ac hA => ?_) rfl rfl rfl rfl rfl rfl
  refine x_m hA rfl fun ac hA => ?_
  refine x_off rfl hA (fun ac hA => ?_) rfl rfl rfl rfl rfl
  refine x_off rfl hA (fun ac hA => ?_) rfl rfl rfl rfl rfl
  refine x_pickt rfl hA (fun ac hA => ?_) rfl rfl rfl rfl rfl rfl
  refine x_m hA rfl fun ac hA => ?_
  refine wpList_nil ?_
  exact hj1 true hF ac w (hA.sub _ rfl) hS
 replace hF := iff' hb1240 hF
 refine x_on hb1240 hA ?_ rfl rfl rfl
 refine x_m hA rfl fun ac hA => ?_
 refine x_on hb1240 hA ?_ rfl rfl rfl
 refine x_v hA (r_ltI rfl (hA.ev rfl) (hA.ev rfl)) rfl fun ac hA => ?_
 refine x_pickf hb1240 hA (fun ac hA => ?_) rfl rfl rfl rfl rfl rfl
 refine x_m hA rfl fun ac hA => ?_
 refine bcase (b := decide (a1 < 1)) (fun hb1241 => ?_) fun hb1241 => ?_
 ·replace hF := ift hb1241 hF
  refine x_off hb1241 hA (fun ac hA => ?_) rfl rfl rfl rfl rfl
  refine x_off hb1241 hA (fun ac hA => ?_) rfl rfl rfl rfl rfl
  refine x_pickt hb1241 hA (fun ac hA => ?_) rfl rfl rfl rfl rfl rfl
  refine x_m hA rfl fun ac hA => ?_
  refine wpList_nil ?_
  exact hj1 true hF ac w (hA.sub _ rfl) hS
 replace hF := iff' hb1241 hF
 refine x_on hb1241 hA ?_ rfl rfl rfl
 refine x_m hA rfl fun ac hA => ?_
 refine x_on hb1241 hA ?_ rfl rfl rfl
 refine x_v hA (r_gtI rfl (hA.ev rfl) (hA.ev rfl)) rfl fun ac hA => ?_
 refine x_pickf hb1241 hA (fun ac hA => ?_) rfl rfl rfl rfl rfl rfl
 refine x_m hA rfl fun ac hA => ?_
 refine wpList_nil ?_
 exact hj1 (decide (8 < a1)) hF ac w (hA.sub _ rfl) hS
end Go.Proofs.YteodeedejjcmgaaDoor.M
namespace Go.Proofs.YteodeedejjcmgaaDoor.M
open Go Go.RowKit Go.Proofs.YteodeedejjcmgaaDoor.E
set_option linter.unusedVariables false
set_option linter.unusedSimpArgs false
noncomputable def segment_Segment_foot_b1 (a0 : S83) (x123 : Int) (l4801 : (List S41)) (l4805 : (List Int)) : Option ((S83 × S106) ⊕ (S83 × S106)) :=
  some (.inl ((⟨a0.f0, x123, l4801⟩ : S83), (⟨l4805⟩ : S106)))
noncomputable def segment_Segment_foot_x1_0 (a0 : S83) (x123 : Int) (l7904 : (List S41)) (l7908 : (List Int)) : Option ((S83 × S106) ⊕ (S83 × S106)) :=
  segment_Segment_foot_b1 a0 x123 l7904 l7908
noncomputable def segment_Segment_foot_j4 (l6352 : (List S41)) (x6361 : Int) (x9136 : Int) (x9137 : Int) (y9139 : (Int × S106)) (y9149 : (Int × S106)) (y9160 : (Int × S106)) (y9170 : (Int × S106)) (y9181 : ((List UInt8) × S106)) (y9191 : ((List UInt8) × S106)) (l9287 : (List Int)) : Option (((List S41) × (List Int) × Int) ⊕ (((List S41) × (List Int)) ⊕ ((S83 × S106) ⊕ (S83 × S106)))) :=
  chk (l6352.length + [(⟨x9136, x9137, y9139.1, y9149.1, y9160.1, y9170.1, y9181.1, y9191.1⟩ : S41)].length ≤ 140737488355328 / 80) (ltt (IntKind.u64.wrap (x6361 + 1)) fun x9297 => (some (.inl (l6352 ++ [(⟨x9136, x9137, y9139.1, y9149.1, y9160.1, y9170.1, y9181.1, y9191.1⟩ : S41)], l9287, x9297))))
noncomputable def segment_Segment_foot_j3 (a0 : S83) (x123 : Int) (l6352 : (List S41)) (x6361 : Int) (x9136 : Int) (x9137 : Int) (y9139 : (Int × S106)) (y9149 : (Int × S106)) (y9160 : (Int × S106)) (y9170 : (Int × S106)) (y9181 : ((List UInt8) × S106)) (y9191 : ((List UInt8) × S106)) (l9240 : (List Int)) : Option (((List S41) × (List Int) × Int) ⊕ (((List S41) × (List Int)) ⊕ ((S83 × S106) ⊕ (S83 × S106)))) :=
  if (decide (0 < x6361)) = true then (ltt (IntKind.u64.wrap (x6361 - 1)) fun x9301 => ((at_ l6352 x9301).bind fun x9303 => (ltt (IntKind.u64.wrap (x9303.f3 + 1)) fun x9306 => (if (y9139.1 == x9306) = true then ((column_Reader_Check (⟨l9240⟩ : S106) (decide (x9303.f1 < x9137))).bind fun y9310 => (sum_ y9310 (fun y9310 => (segment_Segment_foot_j4 l6352 x6361 x9136 x9137 y9139 y9149 y9160 y9170 y9181 y9191 y9310.f0)) (fun y9310 => (some (.inr (.inr (.inr ((⟨a0.f0, x123, l6352⟩ : S83), y9310)))))))) else ((column_Reader_Check (⟨l9240⟩ : S106) false).bind fun y9320 => (sum_ y9320 (fun y9320 => (segment_Segment_foot_j4 l6352 x6361 x9136 x9137 y9139 y9149 y9160 y9170 y9181 y9191 y9320.f0)) (fun y9320 => (some (.inr (.inr (.inr ((⟨a0.f0, x123, l6352⟩ : S83), y9320)))))))))))) else ((column_Reader_Check (⟨l9240⟩ : S106) (x9137 == 0)).bind fun y9330 => (sum_ y9330 (fun y9330 => (segment_Segment_foot_j4 l6352 x6361 x9136 x9137 y9139 y9149 y9160 y9170 y9181 y9191 y9330.f0)) (fun y9330 => (some (.inr (.inr (.inr ((⟨a0.f0, x123, l6352⟩ : S83), y9330))))))))
noncomputable def segment_Segment_foot_j2 (a0 : S83) (x123 : Int) (l6352 : (List S41)) (x6361 : Int) (l9130 : (List Int)) (x9136 : Int) (x9137 : Int) : Option (((List S41) × (List Int) × Int) ⊕ (((List S41) × (List Int)) ⊕ ((S83 × S106) ⊕ (S83 × S106)))) :=
  (column_Reader_Uint (⟨l9130⟩ : S106) 1099511627776).bind fun y9139 => (sum_ y9139 (fun y9139 => ((column_Reader_Uint y9139.2 1099511627776).bind fun y9149 => (sum_ y9149 (fun y9149 => ((column_Reader_Int y9149.2).bind fun y9160 => (sum_ y9160 (fun y9160 => ((column_Reader_Int y9160.2).bind fun y9170 => (sum_ y9170 (fun y9170 => ((column_Reader_Text y9170.2 32).bind fun y9181 => (sum_ y9181 (fun y9181 => ((column_Reader_Text y9181.2 32).bind fun y9191 => (sum_ y9191 (fun y9191 => (if (decide (0 < x9136)) = true then (ltt (IntKind.u64.wrap (y9149.1 - y9139.1)) fun x9341 => (ltt (IntKind.i64.wrap (x9136 - 1)) fun x9343 => (ltt (IntKind.u64.wrap x9343) fun x9345 => (if (x9341 == x9345) = true then ((column_Reader_Check y9191.2 (decide (y9139.1 ≤ y9149.1))).bind fun y9348 => (sum_ y9348 (fun y9348 => (segment_Segment_foot_j3 a0 x123 l6352 x6361 x9136 x9137 y9139 y9149 y9160 y9170 y9181 y9191 y9348.f0)) (fun y9348 => (some (.inr (.inr (.inr ((⟨a0.f0, x123, l6352⟩ : S83), y9348)))))))) else ((column_Reader_Check y9191.2 false).bind fun y9358 => (sum_ y9358 (fun y9358 => (segment_Segment_foot_j3 a0 x123 l6352 x6361 x9136 x9137 y9139 y9149 y9160 y9170 y9181 y9191 y9358.f0)) (fun y9358 => (some (.inr (.inr (.inr ((⟨a0.f0, x123, l6352⟩ : S83), y9358)))))))))))) else ((column_Reader_Check y9191.2 false).bind fun y9368 => (sum_ y9368 (fun y9368 => (segment_Segment_foot_j3 a0 x123 l6352 x6361 x9136 x9137 y9139 y9149 y9160 y9170 y9181 y9191 y9368.f0)) (fun y9368 => (some (.inr (.inr (.inr ((⟨a0.f0, x123, l6352⟩ : S83), y9368)))))))))) (fun y9191 => (some (.inr (.inr (.inr ((⟨a0.f0, x123, l6352⟩ : S83), y9191))))))))) (fun y9181 => (some (.inr (.inr (.inr ((⟨a0.f0, x123, l6352⟩ : S83), y9181))))))))) (fun y9170 => (some (.inr (.inr (.inr ((⟨a0.f0, x123, l6352⟩ : S83), y9170))))))))) (fun y9160 => (some (.inr (.inr (.inr ((⟨a0.f0, x123, l6352⟩ : S83), y9160))))))))) (fun y9149 => (some (.inr (.inr (.inr ((⟨a0.f0, x123, l6352⟩ : S83), y9149))))))))) (fun y9139 => (some (.inr (.inr (.inr ((⟨a0.f0, x123, l6352⟩ : S83), y9139)))))))
noncomputable def segment_Segment_foot_l1 (a0 : S83) (x123 : Int) (y126 : (Int × S106)) (l6352 : (List S41)) (l6356 : (List Int)) (x6361 : Int) : Option (((List S41) × (List Int) × Int) ⊕ (((List S41) × (List Int)) ⊕ ((S83 × S106) ⊕ (S83 × S106)))) :=
  if (decide (x6361 < y126.1)) = true then (ltt (IntKind.u64.wrap (a0.f0.length : Int)) fun x9378 => ((column_Reader_Uint (⟨l6356⟩ : S106) 64).bind fun y9380 => (sum_ y9380 (fun y9380 => (ltt (IntKind.i64.wrap y9380.1) fun x9390 => ((column_Reader_Uint y9380.2 x9378).bind fun y9392 => (sum_ y9392 (fun y9392 => (ltt (IntKind.i64.wrap y9392.1) fun x9402 => (segment_Segment_foot_j2 a0 x123 l6352 x6361 y9392.2.f0 x9390 x9402))) (fun y9392 => (some (.inr (.inr (.inr ((⟨a0.f0, x123, l6352⟩ : S83), y9392)))))))))) (fun y9380 => (some (.inr (.inr (.inr ((⟨a0.f0, x123, l6352⟩ : S83), y9380))))))))) else (some (.inr (.inl (l6352, l6356))))
noncomputable def segment_Segment_foot_j1 (a0 : S83) (x123 : Int) (y126 : (Int × S106)) (l158 : (List Int)) : Option ((S83 × S106) ⊕ (S83 × S106)) :=
  (loop (fun s => segment_Segment_foot_l1 a0 x123 y126 s.1 s.2.1 s.2.2) (a0.f2, l158, 0)).bind fun t => match t with | (.inl t) => segment_Segment_foot_x1_0 a0 x123 t.1 t.2 | (.inr t) => some t
noncomputable def segment_Segment_foot (a0 : S83) (a1 : S106) : Option ((S83 × S106) ⊕ (S83 × S106)) :=
  (column_Reader_Uint a1 8).bind fun y113 => (sum_ y113 (fun y113 => (ltt (IntKind.i64.wrap y113.1) fun x123 => ((column_Reader_Uint y113.2 1024).bind fun y126 => (sum_ y126 (fun y126 => (if (decide (0 < x123)) = true then ((column_Reader_Check y126.2 (decide (0 < y126.1))).bind fun y9444 => (sum_ y9444 (fun y9444 => (segment_Segment_foot_j1 a0 x123 y126 y9444.f0)) (fun y9444 => (some (.inr ((⟨a0.f0, x123, a0.f2⟩ : S83), y9444)))))) else ((column_Reader_Check y126.2 false).bind fun y9454 => (sum_ y9454 (fun y9454 => (segment_Segment_foot_j1 a0 x123 y126 y9454.f0)) (fun y9454 => (some (.inr ((⟨a0.f0, x123, a0.f2⟩ : S83), y9454)))))))) (fun y126 => (some (.inr ((⟨a0.f0, x123, a0.f2⟩ : S83), y126)))))))) (fun y113 => (some (.inr (a0, y113)))))
noncomputable def Try_segment_Segment_foot (a0 : (List Int)) (a60 : S83) : Option (Bool × S83) :=
  (segment_Segment_foot a60 (⟨a0⟩ : S106)).bind fun y => (sum_ y (fun y => some ((((y.2.f0.length : Int) == 0), y.1))) (fun y => some ((false, y.1))))
noncomputable def segment_Open_j2 (l217 : (List Int)) (x222 : Int) (l223 : (List S41)) (b227 : Bool) : Option ((Option S83) × Int) :=
  if b227 = true then (some (none, 3)) else (some (some (⟨l217, x222, l223⟩ : S83), 0))
noncomputable def segment_Open_j1 (a0 : (List Int)) (y109 : (Int × (List Int) × Int × Int)) (b122 : Bool) : Option ((Option S83) × Int) :=
  if b122 = true then (some (none, 3)) else ((at_ y109.2.1 0).bind fun x126 => (ltt (IntKind.i64.wrap x126) fun x129 => ((at_ y109.2.1 1).bind fun x131 => (ltt (IntKind.i64.wrap x131) fun x134 => (ltt (ishl .i64 x134 8) fun x136 => (ltt (ior .i64 x129 x136) fun x138 => ((at_ y109.2.1 2).bind fun x140 => (ltt (IntKind.i64.wrap x140) fun x143 => (ltt (ishl .i64 x143 16) fun x145 => (ltt (ior .i64 x138 x145) fun x147 => ((at_ y109.2.1 3).bind fun x149 => (ltt (IntKind.i64.wrap x149) fun x152 => (ltt (ishl .i64 x152 24) fun x154 => (ltt (ior .i64 x147 x154) fun x156 => (ltt (IntKind.i64.wrap ((a0.length : Int) - 13)) fun x160 => (if (decide (x160 < x156)) = true then (some (none, 3)) else ((page_Read a0 x156).bind fun y165 => (if (y165.2.2.2 != 0) = true then (some (none, y165.2.2.2)) else ((cut_ a0 0 x156).bind fun l175 => ((slices_Clone_byte_byte l175).bind fun y182 => (if (y165.1 != 102) = true then (segment_Open_j2 y182 0 [] true) else (if (y165.2.2.1 != x160) = true then (segment_Open_j2 y182 0 [] true) else ((Try_segment_Segment_foot y165.2.1 (⟨y182, 0, []⟩ : S83)).bind fun y240 => (segment_Open_j2 y240.2.f0 y240.2.f1 y240.2.f2 (!y240.1)))))))))))))))))))))))))
noncomputable def segment_Open (a0 : (List Int)) : Option ((Option S83) × Int) :=
  if (decide ((a0.length : Int) < 13)) = true then (some (none, 3)) else (ltt (IntKind.i64.wrap ((a0.length : Int) - 13)) fun x107 => ((page_Read a0 x107).bind fun y109 => (if (y109.2.2.2 != 0) = true then (some (none, y109.2.2.2)) else (if (y109.1 != 116) = true then (segment_Open_j1 a0 y109 true) else (if ((y109.2.1.length : Int) != 4) = true then (segment_Open_j1 a0 y109 true) else (segment_Open_j1 a0 y109 (y109.2.2.1 != (a0.length : Int))))))))
noncomputable def slices_Clone_segment_Chunk_segment_Chunk (a0 : (List S41)) : Option ((List S41)) :=
  nilsplit (a0).isEmpty (some []) (chk (([] : List S41).length + a0.length ≤ 140737488355328 / 80) (some a0))
noncomputable def segment_Segment_Chunks (a0 : (Option S83)) : Option ((List S41)) :=
  match a0 with | none => (some []) | some x101 => ((slices_Clone_segment_Chunk_segment_Chunk x101.f2).bind fun y118 => (some y118))
end Go.Proofs.YteodeedejjcmgaaDoor.M
