/- Texts of the claim, joined: what it uses of Msc, Vc, Dsw, Msw, Dso. -/
import Derived.Test.YteodeedejjcmgaaDoorZe
import Derived.Test.YteodeedejjcmgaaDoorProg
import Derived.IntWalk
namespace Go.Proofs.YteodeedejjcmgaaDoor.M
open Go Go.RowKit Go.Proofs.YteodeedejjcmgaaDoor.E
set_option linter.unusedVariables false
set_option maxRecDepth 100000
set_option maxHeartbeats 4000000
set_option linter.unusedSimpArgs false
theorem F_segment_Filter_Wants {r : World} {L : List HP} {w : World} (a0 : S33) (a1 : S44) {y : (Bool)} (G : segment_Filter_Wants a0 a1 = some y) (X : SH r (L) w) :
  Ret Tryd.prog 16 #[.agg #[.int .u64 a0.f0, .int .u64 a0.f1, .int .i64 a0.f2, .int .i64 a0.f3], .agg #[.int .u64 a1.f0, .int .i64 a1.f1, .int .i64 a1.f2, str a1.f3, .float .f64 a1.f4]] w fun v w' => v = .bool y ∧ SH r (L) w' := by
 refine enter Tryd.func16 rfl Tryd.ntmps16 [(0, .agg #[.int .u64 a0.f0, .int .u64 a0.f1, .int .i64 a0.f2, .int .i64 a0.f3]), (1, .agg #[.int .u64 a1.f0, .int .i64 a1.f1, .int .i64 a1.f2, str a1.f3, .float .f64 a1.f4])] rfl (by simp) ?_
 intro U J Qf hQ hQn
 unfold segment_Filter_Wants at G
 refine ws fun K100 hK100 => ?_
 refine x_box' J X (fun g101 U w X J => ?_) rfl
 refine x_box' J X (fun g102 U w X J => ?_) rfl
 refine x_m J rfl fun U J => ?_
 refine wn (hK100 _ _ ?_)
 refine ws fun K103 hK103 => ?_
 refine x_fab' fa44_0 J (fun U J => ?_) rfl
 refine x_ld' uu31 (X.cell 0 rfl 0 _ rfl) J (fun U J => ?_) rfl
 refine x_fab' fa33_0 J (fun U J => ?_) rfl
 refine x_ld' uu31 (X.cell 1 rfl 0 _ rfl) J (fun U J => ?_) rfl
 refine x_v J (r_geI rfl (J.ev rfl) (J.ev rfl)) rfl fun U J => ?_
 refine x_m J rfl fun U J => ?_
 refine bcase (b := decide (a0.f0 ≤ a1.f0)) (fun hb104 => ?_) fun hb104 => ?_
 ·replace G := ift hb104 G
  refine x_on' hb104 J ?_ rfl
  refine x_fab' fa44_0 J (fun U J => ?_) rfl
  refine x_on' hb104 J ?_ rfl
  refine x_ld' uu31 (X.cell 0 rfl 0 _ rfl) J (fun U J => ?_) rfl
  refine x_on' hb104 J ?_ rfl
  refine x_fab' fa33_1 J (fun U J => ?_) rfl
  refine x_on' hb104 J ?_ rfl
  refine x_ld' uu31 (X.cell 1 rfl 1 _ rfl) J (fun U J => ?_) rfl
  refine x_on' hb104 J ?_ rfl
  refine x_v J (r_ltI rfl (J.ev rfl) (J.ev rfl)) rfl fun U J => ?_
  refine x_pickt' hb104 J (fun U J => ?_) rfl
  refine x_m J rfl fun U J => ?_
  refine bcase (b := decide (a1.f0 < a0.f1)) (fun hb105 => ?_) fun hb105 => ?_
  ·replace G := ift hb105 G
   refine x_on' hb105 J ?_ rfl
   refine x_fab' fa44_2 J (fun U J => ?_) rfl
   refine x_on' hb105 J ?_ rfl
   refine x_ld' uu2 (X.cell 0 rfl 2 _ rfl) J (fun U J => ?_) rfl
   refine x_on' hb105 J ?_ rfl
   refine x_fab' fa33_2 J (fun U J => ?_) rfl
   refine x_on' hb105 J ?_ rfl
   refine x_ld' uu2 (X.cell 1 rfl 2 _ rfl) J (fun U J => ?_) rfl
   refine x_on' hb105 J ?_ rfl
   refine x_v J (r_geI rfl (J.ev rfl) (J.ev rfl)) rfl fun U J => ?_
   refine x_pickt' hb105 J (fun U J => ?_) rfl
   refine x_m J rfl fun U J => ?_
   refine bcase (b := decide (a0.f2 ≤ a1.f2)) (fun hb106 => ?_) fun hb106 => ?_
   ·replace G := ift hb106 G
    refine x_on' hb106 J ?_ rfl
    refine x_fab' fa44_2 J (fun U J => ?_) rfl
    refine x_on' hb106 J ?_ rfl
    refine x_ld' uu2 (X.cell 0 rfl 2 _ rfl) J (fun U J => ?_) rfl
    refine x_on' hb106 J ?_ rfl
    refine x_fab' fa33_3 J (fun U J => ?_) rfl
    refine x_on' hb106 J ?_ rfl
    refine x_ld' uu2 (X.cell 1 rfl 3 _ rfl) J (fun U J => ?_) rfl
    refine x_on' hb106 J ?_ rfl
    refine x_v J (r_leI rfl (J.ev rfl) (J.ev rfl)) rfl fun U J => ?_
    refine x_pickt' hb106 J (fun U J => ?_) rfl
    refine x_m J rfl fun U J => ?_
    refine wn (hK103 _ _ ?_)
    refine wp_ret ?_
    replace X := X.drop 0 |>.drop 0
    cases G
    refine hQ _ _ ?_
    refine lv Tryd.results16 J rfl ?_
    exact ⟨rfl, X⟩
   replace G := iff' hb106 G
   refine xO 5 hb106 J rfl fun U J => ?_
   refine x_pickf' hb106 J (fun U J => ?_) rfl
   refine x_m J rfl fun U J => ?_
   refine wn (hK103 _ _ ?_)
   refine wp_ret ?_
   replace X := X.drop 0 |>.drop 0
   cases G
   refine hQ _ _ ?_
   refine lv Tryd.results16 J rfl ?_
   exact ⟨rfl, X⟩
  replace G := iff' hb105 G
  refine xO 5 hb105 J rfl fun U J => ?_
  refine x_pickf' hb105 J (fun U J => ?_) rfl
  refine x_m J rfl fun U J => ?_
  refine xO 5 rfl J rfl fun U J => ?_
  refine x_pickf' rfl J (fun U J => ?_) rfl
  refine x_m J rfl fun U J => ?_
  refine wn (hK103 _ _ ?_)
  refine wp_ret ?_
  replace X := X.drop 0 |>.drop 0
  cases G
  refine hQ _ _ ?_
  refine lv Tryd.results16 J rfl ?_
  exact ⟨rfl, X⟩
 replace G := iff' hb104 G
 refine xO 5 hb104 J rfl fun U J => ?_
 refine x_pickf' hb104 J (fun U J => ?_) rfl
 refine x_m J rfl fun U J => ?_
 refine xO 5 rfl J rfl fun U J => ?_
 refine x_pickf' rfl J (fun U J => ?_) rfl
 refine x_m J rfl fun U J => ?_
 refine xO 5 rfl J rfl fun U J => ?_
 refine x_pickf' rfl J (fun U J => ?_) rfl
 refine x_m J rfl fun U J => ?_
 refine wn (hK103 _ _ ?_)
 refine wp_ret ?_
 replace X := X.drop 0 |>.drop 0
 cases G
 refine hQ _ _ ?_
 refine lv Tryd.results16 J rfl ?_
 exact ⟨rfl, X⟩
theorem F_segment_Filter_May {r : World} {L : List HP} {w : World} (a0 : S33) (a1 : S41) {y : (Bool)} (G : segment_Filter_May a0 a1 = some y) (X : SH r (L) w) :
  Ret Tryd.prog 17 #[.agg #[.int .u64 a0.f0, .int .u64 a0.f1, .int .i64 a0.f2, .int .i64 a0.f3], .agg #[.int .i64 a1.f0, .int .i64 a1.f1, .int .u64 a1.f2, .int .u64 a1.f3, .int .i64 a1.f4, .int .i64 a1.f5, str a1.f6, str a1.f7]] w fun v w' => v = .bool y ∧ SH r (L) w' := by
 refine enter Tryd.func17 rfl Tryd.ntmps17 [(0, .agg #[.int .u64 a0.f0, .int .u64 a0.f1, .int .i64 a0.f2, .int .i64 a0.f3]), (1, .agg #[.int .i64 a1.f0, .int .i64 a1.f1, .int .u64 a1.f2, .int .u64 a1.f3, .int .i64 a1.f4, .int .i64 a1.f5, str a1.f6, str a1.f7])] rfl (by simp) ?_
 intro U J Qf hQ hQn
 unfold segment_Filter_May at G
 refine ws fun K100 hK100 => ?_
 refine x_box' J X (fun g101 U w X J => ?_) rfl
 refine x_box' J X (fun g102 U w X J => ?_) rfl
 refine x_m J rfl fun U J => ?_
 refine wn (hK100 _ _ ?_)
 refine ws fun K103 hK103 => ?_
 refine x_fab' fa33_0 J (fun U J => ?_) rfl
 refine x_ld' uu31 (X.cell 1 rfl 0 _ rfl) J (fun U J => ?_) rfl
 refine x_fab' fa33_1 J (fun U J => ?_) rfl
 refine x_ld' uu31 (X.cell 1 rfl 1 _ rfl) J (fun U J => ?_) rfl
 refine x_v J (r_ltI rfl (J.ev rfl) (J.ev rfl)) rfl fun U J => ?_
 refine x_m J rfl fun U J => ?_
 refine bcase (b := decide (a0.f0 < a0.f1)) (fun hb104 => ?_) fun hb104 => ?_
 ·replace G := ift hb104 G
  refine x_on' hb104 J ?_ rfl
  refine x_fab' fa41_3 J (fun U J => ?_) rfl
  refine x_on' hb104 J ?_ rfl
  refine x_ld' uu31 (X.cell 0 rfl 3 _ rfl) J (fun U J => ?_) rfl
  refine x_on' hb104 J ?_ rfl
  refine x_fab' fa33_0 J (fun U J => ?_) rfl
  refine x_on' hb104 J ?_ rfl
  refine x_ld' uu31 (X.cell 1 rfl 0 _ rfl) J (fun U J => ?_) rfl
  refine x_on' hb104 J ?_ rfl
  refine x_v J (r_geI rfl (J.ev rfl) (J.ev rfl)) rfl fun U J => ?_
  refine x_pickt' hb104 J (fun U J => ?_) rfl
  refine x_m J rfl fun U J => ?_
  refine bcase (b := decide (a0.f0 ≤ a1.f3)) (fun hb105 => ?_) fun hb105 => ?_
  ·replace G := ift hb105 G
   refine x_on' hb105 J ?_ rfl
   refine x_fab' fa41_2 J (fun U J => ?_) rfl
   refine x_on' hb105 J ?_ rfl
   refine x_ld' uu31 (X.cell 0 rfl 2 _ rfl) J (fun U J => ?_) rfl
   refine x_on' hb105 J ?_ rfl
   refine x_fab' fa33_1 J (fun U J => ?_) rfl
   refine x_on' hb105 J ?_ rfl
   refine x_ld' uu31 (X.cell 1 rfl 1 _ rfl) J (fun U J => ?_) rfl
   refine x_on' hb105 J ?_ rfl
   refine x_v J (r_ltI rfl (J.ev rfl) (J.ev rfl)) rfl fun U J => ?_
   refine x_pickt' hb105 J (fun U J => ?_) rfl
   refine x_m J rfl fun U J => ?_
   refine bcase (b := decide (a1.f2 < a0.f1)) (fun hb106 => ?_) fun hb106 => ?_
   ·replace G := ift hb106 G
    refine x_on' hb106 J ?_ rfl
    refine x_fab' fa33_2 J (fun U J => ?_) rfl
    refine x_on' hb106 J ?_ rfl
    refine x_ld' uu2 (X.cell 1 rfl 2 _ rfl) J (fun U J => ?_) rfl
    refine x_on' hb106 J ?_ rfl
    refine x_fab' fa33_3 J (fun U J => ?_) rfl
    refine x_on' hb106 J ?_ rfl
    refine x_ld' uu2 (X.cell 1 rfl 3 _ rfl) J (fun U J => ?_) rfl
    refine x_on' hb106 J ?_ rfl
    refine x_v J (r_leI rfl (J.ev rfl) (J.ev rfl)) rfl fun U J => ?_
    refine x_pickt' hb106 J (fun U J => ?_) rfl
    refine x_m J rfl fun U J => ?_
    refine bcase (b := decide (a0.f2 ≤ a0.f3)) (fun hb107 => ?_) fun hb107 => ?_
    ·replace G := ift hb107 G
     refine x_on' hb107 J ?_ rfl
     refine x_fab' fa41_5 J (fun U J => ?_) rfl
     refine x_on' hb107 J ?_ rfl
     refine x_ld' uu2 (X.cell 0 rfl 5 _ rfl) J (fun U J => ?_) rfl
     refine x_on' hb107 J ?_ rfl
     refine x_fab' fa33_2 J (fun U J => ?_) rfl
     refine x_on' hb107 J ?_ rfl
     refine x_ld' uu2 (X.cell 1 rfl 2 _ rfl) J (fun U J => ?_) rfl
     refine x_on' hb107 J ?_ rfl
     refine x_v J (r_geI rfl (J.ev rfl) (J.ev rfl)) rfl fun U J => ?_
     refine x_pickt' hb107 J (fun U J => ?_) rfl
     refine x_m J rfl fun U J => ?_
     refine bcase (b := decide (a0.f2 ≤ a1.f5)) (fun hb108 => ?_) fun hb108 => ?_
     ·replace G := ift hb108 G
      refine x_on' hb108 J ?_ rfl
      refine x_fab' fa41_4 J (fun U J => ?_) rfl
      refine x_on' hb108 J ?_ rfl
      refine x_ld' uu2 (X.cell 0 rfl 4 _ rfl) J (fun U J => ?_) rfl
      refine x_on' hb108 J ?_ rfl
      refine x_fab' fa33_3 J (fun U J => ?_) rfl
      refine x_on' hb108 J ?_ rfl
      refine x_ld' uu2 (X.cell 1 rfl 3 _ rfl) J (fun U J => ?_) rfl
      refine x_on' hb108 J ?_ rfl
      refine x_v J (r_leI rfl (J.ev rfl) (J.ev rfl)) rfl fun U J => ?_
      refine x_pickt' hb108 J (fun U J => ?_) rfl
      refine x_m J rfl fun U J => ?_
      refine wn (hK103 _ _ ?_)
      refine wp_ret ?_
      replace X := X.drop 0 |>.drop 0
      cases G
      refine hQ _ _ ?_
      refine lv Tryd.results17 J rfl ?_
      exact ⟨rfl, X⟩
     replace G := iff' hb108 G
     refine xO 5 hb108 J rfl fun U J => ?_
     refine x_pickf' hb108 J (fun U J => ?_) rfl
     refine x_m J rfl fun U J => ?_
     refine wn (hK103 _ _ ?_)
     refine wp_ret ?_
     replace X := X.drop 0 |>.drop 0
     cases G
     refine hQ _ _ ?_
     refine lv Tryd.results17 J rfl ?_
     exact ⟨rfl, X⟩
    replace G := iff' hb107 G
    refine xO 5 hb107 J rfl fun U J => ?_
    refine x_pickf' hb107 J (fun U J => ?_) rfl
    refine x_m J rfl fun U J => ?_
    refine xO 5 rfl J rfl fun U J => ?_
    refine x_pickf' rfl J (fun U J => ?_) rfl
    refine x_m J rfl fun U J => ?_
    refine wn (hK103 _ _ ?_)
    refine wp_ret ?_
    replace X := X.drop 0 |>.drop 0
    cases G
    refine hQ _ _ ?_
    refine lv Tryd.results17 J rfl ?_
    exact ⟨rfl, X⟩
   replace G := iff' hb106 G
   refine xO 5 hb106 J rfl fun U J => ?_
   refine x_pickf' hb106 J (fun U J => ?_) rfl
   refine x_m J rfl fun U J => ?_
   refine xO 5 rfl J rfl fun U J => ?_
   refine x_pickf' rfl J (fun U J => ?_) rfl
   refine x_m J rfl fun U J => ?_
   refine xO 5 rfl J rfl fun U J => ?_
   refine x_pickf' rfl J (fun U J => ?_) rfl
   refine x_m J rfl fun U J => ?_
   refine wn (hK103 _ _ ?_)
   refine wp_ret ?_
   replace X := X.drop 0 |>.drop 0
   cases G
   refine hQ _ _ ?_
   refine lv Tryd.results17 J rfl ?_
   exact ⟨rfl, X⟩
  replace G := iff' hb105 G
  refine xO 5 hb105 J rfl fun U J => ?_
  refine x_pickf' hb105 J (fun U J => ?_) rfl
  refine x_m J rfl fun U J => ?_
  refine xO 5 rfl J rfl fun U J => ?_
  refine x_pickf' rfl J (fun U J => ?_) rfl
  refine x_m J rfl fun U J => ?_
  refine xO 5 rfl J rfl fun U J => ?_
  refine x_pickf' rfl J (fun U J => ?_) rfl
  refine x_m J rfl fun U J => ?_
  refine xO 5 rfl J rfl fun U J => ?_
  refine x_pickf' rfl J (fun U J => ?_) rfl
  refine x_m J rfl fun U J => ?_
  refine wn (hK103 _ _ ?_)
  refine wp_ret ?_
  replace X := X.drop 0 |>.drop 0
  cases G
  refine hQ _ _ ?_
  refine lv Tryd.results17 J rfl ?_
  exact ⟨rfl, X⟩
 replace G := iff' hb104 G
 refine xO 5 hb104 J rfl fun U J => ?_
 refine x_pickf' hb104 J (fun U J => ?_) rfl
 refine x_m J rfl fun U J => ?_
 refine xO 5 rfl J rfl fun U J => ?_
 refine x_pickf' rfl J (fun U J => ?_) rfl
 refine x_m J rfl fun U J => ?_
 refine xO 5 rfl J rfl fun U J => ?_
 refine x_pickf' rfl J (fun U J => ?_) rfl
 refine x_m J rfl fun U J => ?_
 refine xO 5 rfl J rfl fun U J => ?_
 refine x_pickf' rfl J (fun U J => ?_) rfl
 refine x_m J rfl fun U J => ?_
 refine xO 5 rfl J rfl fun U J => ?_
 refine x_pickf' rfl J (fun U J => ?_) rfl
 refine x_m J rfl fun U J => ?_
 refine wn (hK103 _ _ ?_)
 refine wp_ret ?_
 replace X := X.drop 0 |>.drop 0
 cases G
 refine hQ _ _ ?_
 refine lv Tryd.results17 J rfl ?_
 exact ⟨rfl, X⟩
theorem F_segment_chunk {r : World} {L : List HP} {w : World} (a0 : (List S44)) (a1 : Int) (A0 : Option Addr) (n0 : Nat) (c0 : Nat) {y : (S41)} (G : segment_chunk a0 a1 = some y) (ha0 : RdL L k44 A0 n0 c0 a0) (X : SH r (L) w) :
  Ret Tryd.prog 25 #[.slice A0 n0 c0, .int .i64 a1] w fun v w' => v = .agg #[.int .i64 y.f0, .int .i64 y.f1, .int .u64 y.f2, .int .u64 y.f3, .int .i64 y.f4, .int .i64 y.f5, str y.f6, str y.f7] ∧ SH r (L) w' := by
 refine enter Tryd.func25 rfl Tryd.ntmps25 [(0, .slice A0 n0 c0), (1, .int .i64 a1)] rfl (by simp) ?_
 intro U J Qf hQ hQn
 unfold segment_chunk at G
 refine ws fun K100 hK100 => ?_
 refine x_alloc' (cs := [.int .i64 0, .int .i64 0, .int .u64 0, .int .u64 0, .int .i64 0, .int .i64 0, str [], str []]) zr41 J X (fun g101 U w X J => ?_) rfl
 refine wn (hK100 _ _ ?_)
 refine wp_seq_k fun K102 hK102 => ?_
 refine wp_draw [0, 1, 0, 0, 8, 24, 56, 0, 128, 384, 896, 0, 2048, 6144, 14336, 0, 32768, 98304, 229376, 0, 524288, 1572864, 3670016, 0, 8388608, 25165824, 58720256, 134217727, 0, 536870911] [28, 29] rfl J X (by kernel_rfl) (by kernel_rfl) (by kernel_rfl) (by kernel_rfl) fun w X => ?_
 obtain ⟨x103, h104, G⟩ := bnd G
 obtain ⟨cs, hV, hc105⟩ := el (X.rdl 1 ha0 rfl) h104
 obtain rfl := hV
 obtain ⟨cs, hV, hc106⟩ := el (X.rdl 1 ha0 rfl) h104
 obtain rfl := hV
 obtain ⟨cs, hV, hc107⟩ := el (X.rdl 1 ha0 rfl) h104
 obtain rfl := hV
 obtain ⟨cs, hV, hc108⟩ := el (X.rdl 1 ha0 rfl) h104
 obtain rfl := hV
 obtain ⟨cs, hV, hc109⟩ := el (X.rdl 1 ha0 rfl) h104
 obtain rfl := hV
 obtain ⟨cs, hV, hc110⟩ := el (X.rdl 1 ha0 rfl) h104
 obtain rfl := hV
 refine ⟨[(0, .slice A0 n0 c0), (1, .int .i64 (a0.length : Int)), (2, .int .i64 a1), (3, .slice A0 n0 c0), (4, .pointer (some (ea A0 ((0 : Int).toNat * 5)))), (5, .pointer (some (ea A0 ((0 : Int).toNat * 5)))), (6, .int .u64 x103.f0), (7, .slice A0 n0 c0), (8, .pointer (some (ea A0 ((0 : Int).toNat * 5)))), (9, .pointer (some (ea A0 ((0 : Int).toNat * 5)))), (10, .int .u64 x103.f0), (11, .slice A0 n0 c0), (12, .pointer (some (ea A0 ((0 : Int).toNat * 5)))), (13, .pointer (some (ea A0 ((0 : Int).toNat * 5 + 2)))), (14, .int .i64 x103.f2), (15, .slice A0 n0 c0), (16, .pointer (some (ea A0 ((0 : Int).toNat * 5)))), (17, .pointer (some (ea A0 ((0 : Int).toNat * 5 + 2)))), (18, .int .i64 x103.f2), (19, .slice A0 n0 c0), (20, .pointer (some (ea A0 ((0 : Int).toNat * 5)))), (21, .pointer (some (ea A0 ((0 : Int).toNat * 5 + 3)))), (22, str x103.f3), (23, .slice A0 n0 c0), (24, .pointer (some (ea A0 ((0 : Int).toNat * 5)))), (25, .pointer (some (ea A0 ((0 : Int).toNat * 5 + 3)))), (26, str x103.f3), (27, .agg #[.int .i64 (a0.length : Int), .int .i64 a1, .int .u64 x103.f0, .int .u64 x103.f0, .int .i64 x103.f2, .int .i64 x103.f2, str x103.f3, str x103.f3])], ?_⟩
 refine dF [0, 1, 2, 3, 4, 5, 6, 7, 8, 9, 10, 11, 12, 13, 14, 15, 16, 17, 18, 19, 20, 21, 22, 23, 24, 25, 26, 27] [28] (by kernel_rfl) ⟨pm rfl, pt [(8, .slice A0 n0 c0)] rfl (fun U J => y_len uu22 (X.rdl 1 ha0 rfl).2.1 J rfl rfl), pm rfl, pm rfl, pt [(11, .slice A0 n0 c0)] rfl (fun U J => y_ia uu22 sz44 (X.rdl 1 ha0 rfl) h104 J rfl rfl rfl), pt [(12, .pointer (some (ea A0 ((0 : Int).toNat * 5))))] rfl (fun U J => y_fae (m := (0 : Int).toNat * 5) fa44_0 J rfl rfl), pt [(13, .pointer (some (ea A0 ((0 : Int).toNat * 5))))] rfl (fun U J => y_ld uu31 (hc105 0 _ rfl) J rfl rfl rfl), pm rfl, pt [(15, .slice A0 n0 c0)] rfl (fun U J => y_ia uu22 sz44 (X.rdl 1 ha0 rfl) h104 J rfl rfl rfl), pt [(16, .pointer (some (ea A0 ((0 : Int).toNat * 5))))] rfl (fun U J => y_fae (m := (0 : Int).toNat * 5) fa44_0 J rfl rfl), pt [(17, .pointer (some (ea A0 ((0 : Int).toNat * 5))))] rfl (fun U J => y_ld uu31 (hc106 0 _ rfl) J rfl rfl rfl), pm rfl, pt [(19, .slice A0 n0 c0)] rfl (fun U J => y_ia uu22 sz44 (X.rdl 1 ha0 rfl) h104 J rfl rfl rfl), pt [(20, .pointer (some (ea A0 ((0 : Int).toNat * 5))))] rfl (fun U J => y_fae (m := (0 : Int).toNat * 5) fa44_2 J rfl rfl), pt [(21, .pointer (some (ea A0 ((0 : Int).toNat * 5 + 2))))] rfl (fun U J => y_ld uu2 (hc107 2 _ rfl) J rfl rfl rfl), pm rfl, pt [(23, .slice A0 n0 c0)] rfl (fun U J => y_ia uu22 sz44 (X.rdl 1 ha0 rfl) h104 J rfl rfl rfl), pt [(24, .pointer (some (ea A0 ((0 : Int).toNat * 5))))] rfl (fun U J => y_fae (m := (0 : Int).toNat * 5) fa44_2 J rfl rfl), pt [(25, .pointer (some (ea A0 ((0 : Int).toNat * 5 + 2))))] rfl (fun U J => y_ld uu2 (hc108 2 _ rfl) J rfl rfl rfl), pm rfl, pt [(27, .slice A0 n0 c0)] rfl (fun U J => y_ia uu22 sz44 (X.rdl 1 ha0 rfl) h104 J rfl rfl rfl), pt [(28, .pointer (some (ea A0 ((0 : Int).toNat * 5))))] rfl (fun U J => y_fae (m := (0 : Int).toNat * 5) fa44_3 J rfl rfl), pt [(29, .pointer (some (ea A0 ((0 : Int).toNat * 5 + 3))))] rfl (fun U J => y_ld uu9 (hc109 3 _ rfl) J rfl rfl rfl), pm rfl, pt [(31, .slice A0 n0 c0)] rfl (fun U J => y_ia uu22 sz44 (X.rdl 1 ha0 rfl) h104 J rfl rfl rfl), pt [(32, .pointer (some (ea A0 ((0 : Int).toNat * 5))))] rfl (fun U J => y_fae (m := (0 : Int).toNat * 5) fa44_3 J rfl rfl), pt [(33, .pointer (some (ea A0 ((0 : Int).toNat * 5 + 3))))] rfl (fun U J => y_ld uu9 (hc110 3 _ rfl) J rfl rfl rfl), pt [(9, .int .i64 (a0.length : Int)), (10, .int .i64 a1), (14, .int .u64 x103.f0), (18, .int .u64 x103.f0), (22, .int .i64 x103.f2), (26, .int .i64 x103.f2), (30, str x103.f3), (34, str x103.f3)] rfl (fun U J => (r_build (ps := #[(0, .int .i64 (a0.length : Int)), (1, .int .i64 a1), (2, .int .u64 x103.f0), (3, .int .u64 x103.f0), (4, .int .i64 x103.f2), (5, .int .i64 x103.f2), (6, str x103.f3), (7, str x103.f3)]) rfl (mapev2 J rfl) (fun w => by kernel_rfl) : RunV _ _ _ _ (.agg #[.int .i64 (a0.length : Int), .int .i64 a1, .int .u64 x103.f0, .int .u64 x103.f0, .int .i64 x103.f2, .int .i64 x103.f2, str x103.f3, str x103.f3]))), trivial⟩ ⟨et [] rfl (fun U J K hK => ?_), trivial⟩
 refine z_alloc' (cs := [.int .i64 0, .int .i64 0, .int .u64 0, .int .u64 0, .int .i64 0, .int .i64 0, str [], str []]) zr41 J X (fun g111 w X => ?_) rfl
 obtain ⟨cs, hV, hc112⟩ := el (X.rdl 2 ha0 rfl) h104
 obtain rfl := hV
 obtain ⟨cs, hV, hc113⟩ := el (X.rdl 2 ha0 rfl) h104
 obtain rfl := hV
 obtain ⟨cs, hV, hc114⟩ := el (X.rdl 2 ha0 rfl) h104
 obtain rfl := hV
 obtain ⟨cs, hV, hc115⟩ := el (X.rdl 2 ha0 rfl) h104
 obtain rfl := hV
 obtain ⟨cs, hV, hc116⟩ := el (X.rdl 2 ha0 rfl) h104
 obtain rfl := hV
 obtain ⟨cs, hV, hc117⟩ := el (X.rdl 2 ha0 rfl) h104
 obtain rfl := hV
 refine hK _ [] _ rfl ?_
 refine dF [0, 1, 2, 3, 4, 5, 6, 7, 8, 9, 10, 11, 12, 13, 14, 15, 16, 17, 18, 19, 20, 21, 22, 23, 24, 25, 26, 27] [29] (by kernel_rfl) ⟨pm rfl, pt [(8, .slice A0 n0 c0)] rfl (fun U J => y_len uu22 (X.rdl 2 ha0 rfl).2.1 J rfl rfl), pm rfl, pm rfl, pt [(11, .slice A0 n0 c0)] rfl (fun U J => y_ia uu22 sz44 (X.rdl 2 ha0 rfl) h104 J rfl rfl rfl), pt [(12, .pointer (some (ea A0 ((0 : Int).toNat * 5))))] rfl (fun U J => y_fae (m := (0 : Int).toNat * 5) fa44_0 J rfl rfl), pt [(13, .pointer (some (ea A0 ((0 : Int).toNat * 5))))] rfl (fun U J => y_ld uu31 (hc112 0 _ rfl) J rfl rfl rfl), pm rfl, pt [(15, .slice A0 n0 c0)] rfl (fun U J => y_ia uu22 sz44 (X.rdl 2 ha0 rfl) h104 J rfl rfl rfl), pt [(16, .pointer (some (ea A0 ((0 : Int).toNat * 5))))] rfl (fun U J => y_fae (m := (0 : Int).toNat * 5) fa44_0 J rfl rfl), pt [(17, .pointer (some (ea A0 ((0 : Int).toNat * 5))))] rfl (fun U J => y_ld uu31 (hc113 0 _ rfl) J rfl rfl rfl), pm rfl, pt [(19, .slice A0 n0 c0)] rfl (fun U J => y_ia uu22 sz44 (X.rdl 2 ha0 rfl) h104 J rfl rfl rfl), pt [(20, .pointer (some (ea A0 ((0 : Int).toNat * 5))))] rfl (fun U J => y_fae (m := (0 : Int).toNat * 5) fa44_2 J rfl rfl), pt [(21, .pointer (some (ea A0 ((0 : Int).toNat * 5 + 2))))] rfl (fun U J => y_ld uu2 (hc114 2 _ rfl) J rfl rfl rfl), pm rfl, pt [(23, .slice A0 n0 c0)] rfl (fun U J => y_ia uu22 sz44 (X.rdl 2 ha0 rfl) h104 J rfl rfl rfl), pt [(24, .pointer (some (ea A0 ((0 : Int).toNat * 5))))] rfl (fun U J => y_fae (m := (0 : Int).toNat * 5) fa44_2 J rfl rfl), pt [(25, .pointer (some (ea A0 ((0 : Int).toNat * 5 + 2))))] rfl (fun U J => y_ld uu2 (hc115 2 _ rfl) J rfl rfl rfl), pm rfl, pt [(27, .slice A0 n0 c0)] rfl (fun U J => y_ia uu22 sz44 (X.rdl 2 ha0 rfl) h104 J rfl rfl rfl), pt [(28, .pointer (some (ea A0 ((0 : Int).toNat * 5))))] rfl (fun U J => y_fae (m := (0 : Int).toNat * 5) fa44_3 J rfl rfl), pt [(29, .pointer (some (ea A0 ((0 : Int).toNat * 5 + 3))))] rfl (fun U J => y_ld uu9 (hc116 3 _ rfl) J rfl rfl rfl), pm rfl, pt [(31, .slice A0 n0 c0)] rfl (fun U J => y_ia uu22 sz44 (X.rdl 2 ha0 rfl) h104 J rfl rfl rfl), pt [(32, .pointer (some (ea A0 ((0 : Int).toNat * 5))))] rfl (fun U J => y_fae (m := (0 : Int).toNat * 5) fa44_3 J rfl rfl), pt [(33, .pointer (some (ea A0 ((0 : Int).toNat * 5 + 3))))] rfl (fun U J => y_ld uu9 (hc117 3 _ rfl) J rfl rfl rfl), pt [(9, .int .i64 (a0.length : Int)), (10, .int .i64 a1), (14, .int .u64 x103.f0), (18, .int .u64 x103.f0), (22, .int .i64 x103.f2), (26, .int .i64 x103.f2), (30, str x103.f3), (34, str x103.f3)] rfl (fun U J => (r_build (ps := #[(0, .int .i64 (a0.length : Int)), (1, .int .i64 a1), (2, .int .u64 x103.f0), (3, .int .u64 x103.f0), (4, .int .i64 x103.f2), (5, .int .i64 x103.f2), (6, str x103.f3), (7, str x103.f3)]) rfl (mapev2 J rfl) (fun w => by kernel_rfl) : RunV _ _ _ _ (.agg #[.int .i64 (a0.length : Int), .int .i64 a1, .int .u64 x103.f0, .int .u64 x103.f0, .int .i64 x103.f2, .int .i64 x103.f2, str x103.f3, str x103.f3]))), trivial⟩ ⟨et [(5, (pP g111)), (35, .agg #[.int .i64 (a0.length : Int), .int .i64 a1, .int .u64 x103.f0, .int .u64 x103.f0, .int .i64 x103.f2, .int .i64 x103.f2, str x103.f3, str x103.f3])] rfl (fun U J K hK => ?_), trivial⟩
 refine z_stb' 0 sz41 J X rfl (fun  w X => ?_) rfl
 refine hK _ [] _ rfl ?_
 refine dEnd [] (by kernel_rfl) trivial ⟨by kernel_rfl, by kernel_rfl⟩ [(0, .slice A0 n0 c0), (4, (pP g101)), (5, (pP g111))] rfl (fun U J => ?_)
 refine hK102 _ _ ?_
 refine wp_seq_k fun K118 hK118 => ?_
 refine ws fun K119 hK119 => ?_
 refine x_m J rfl fun U J => ?_
 refine x_len' uu22 (X.rdl 2 ha0 rfl).2.1 J (fun U J => ?_) rfl
 refine x_m J rfl fun U J => ?_
 refine wn (hK119 _ _ ?_)
 refine wp_block_k fun Kx120 hKx120 => ?_
 have hb1 : ∀ (x121 : Int) (x122 : Int) (x123 : Int) (x124 : Int) (s125 : (List UInt8)) (s126 : (List UInt8)), segment_chunk_b1 a0 a1 x121 x122 x123 x124 s125 s126 = some y → ∀ (U : Act) (w : World), FR 80 [] U [(4, (pP g101)), (5, (pP g111))] → SH r (blk g101 41 [.int .i64 0, .int .i64 0, .int .u64 0, .int .u64 0, .int .i64 0, .int .i64 0, str [], str []] :: blk g111 41 [.int .i64 (a0.length : Int), .int .i64 a1, .int .u64 x121, .int .u64 x122, .int .i64 x123, .int .i64 x124, str s125, str s126] :: L) w → Kx120 U w := by
  intro x121 x122 x123 x124 s125 s126 G U w J X
  unfold segment_chunk_b1 at G
  refine hKx120 _ _ ?_
  refine hK118 _ _ ?_
  refine ws fun K127 hK127 => ?_
  refine x_lda' (ad := ⟨g111, 0, none⟩) (cs := [.int .i64 (a0.length : Int), .int .i64 a1, .int .u64 x121, .int .u64 x122, .int .i64 x123, .int .i64 x124, str s125, str s126]) uu41 sz41 (fun j u h => by rw [add_mk, Nat.zero_add]; exact X.cell 1 rfl j u h) J (fun U J => ?_) rfl
  refine x_stb' 0 sz41 J X rfl (fun  U w X J => ?_) rfl
  refine wn (hK127 _ _ ?_)
  refine wp_ret ?_
  have hS0 := X
  replace X := X.drop 0 |>.drop 0
  cases G
  refine hQ _ _ ?_
  refine lvc1 (cs := [.int .i64 (a0.length : Int), .int .i64 a1, .int .u64 x121, .int .u64 x122, .int .i64 x123, .int .i64 x124, str s125, str s126]) Tryd.results25 uu41 sz41 hS0 0 rfl J rfl rfl ?_
  exact ⟨rfl, X⟩
 obtain ⟨t128, hl128, G⟩ := bnd G
 have hx128_0 : ∀ (x129 : Int) (x130 : Int) (x131 : Int) (x132 : Int) (s133 : (List UInt8)) (s128 : (List UInt8)), (x129, x130, x131, x132, s133, s128) = t128 → ∀ (U : Act) (w : World), FR 80 [] U [(4, (pP g101)), (5, (pP g111))] → SH r (blk g101 41 [.int .i64 0, .int .i64 0, .int .u64 0, .int .u64 0, .int .i64 0, .int .i64 0, str [], str []] :: blk g111 41 [.int .i64 (a0.length : Int), .int .i64 a1, .int .u64 x129, .int .u64 x130, .int .i64 x131, .int .i64 x132, str s133, str s128] :: L) w → Kx120 U w := by
  intro x129 x130 x131 x132 s133 s128 ht U w J X
  subst ht
  replace G : segment_chunk_x1_0 a0 a1 x129 x130 x131 x132 s133 s128 = some y := G
  unfold segment_chunk_x1_0 at G
  exact hb1 x129 x130 x131 x132 s133 s128 G U w (J.sub _ rfl) X
 replace X := X.pk 1
 refine wp_loop_fn hl128 (fun s U w => FR 80 [] U [(4, (pP g101)), (5, (pP g111)), (36, .slice A0 n0 c0), (37, .int .i64 (a0.length : Int)), (38, .int .i64 s.2.2.2.2.2.2)] ∧ SH r (blk g101 41 [.int .i64 0, .int .i64 0, .int .u64 0, .int .u64 0, .int .i64 0, .int .i64 0, str [], str []] :: blk g111 41 [.int .i64 (a0.length : Int), .int .i64 a1, .int .u64 s.1, .int .u64 s.2.1, .int .i64 s.2.2.1, .int .i64 s.2.2.2.1, str s.2.2.2.2.1, str s.2.2.2.2.2.1] :: L) w) ⟨J.sub _ rfl, X⟩ ?_
 intro N128 s128 o128 G N128_ T128_ U w hLab
 obtain ⟨x134, x135, x136, x137, s138, s139, x140⟩ := s128
 replace G : segment_chunk_l1 a0 x134 x135 x136 x137 s138 s139 x140 = some o128 := G
 unfold segment_chunk_l1 at G
 try dsimp only at hLab
 obtain ⟨J, X⟩ := hLab
 refine ws fun K141 hK141 => ?_
 refine x_v J (r_ltI rfl (J.ev rfl) (J.ev rfl)) rfl fun U J => ?_
 refine wn (hK141 _ _ ?_)
 refine wp_seq_k fun K142 hK142 => ?_
 refine c_if J rfl (fun hb143 => ?_) fun hb143 => ?_
 ·replace G := ift hb143 G
  refine wp_skip ?_
  refine hK142 _ _ ?_
  refine wp_seq_k fun K144 hK144 => ?_
  refine wp_block_k fun Kx145 hKx145 => ?_
  refine ws fun K146 hK146 => ?_
  obtain ⟨x147, h148, G⟩ := bnd G
  refine x_ia' uu22 sz44 (X.rdl 2 ha0 rfl) h148 J (fun U J => ?_) rfl
  obtain ⟨cs, hV, hc149⟩ := el (X.rdl 2 ha0 rfl) h148
  obtain rfl := hV
  refine x_lda' (cs := [.int .u64 x147.f0, .int .i64 x147.f1, .int .i64 x147.f2, str x147.f3, .float .f64 x147.f4]) uu44 sz44 (fun j u h => by rw [ea_add]; exact hc149 _ _ h) J (fun U J => ?_) rfl
  refine x_alloc' (cs := [.int .u64 0, .int .i64 0, .int .i64 0, str [], .float .f64 0]) zr44 J X (fun g150 U w X J => ?_) rfl
  refine x_stb' 0 sz44 J X rfl (fun  U w X J => ?_) rfl
  refine wn (hK146 _ _ ?_)
  refine wp_seq_k fun K151 hK151 => ?_
  refine wp_draw [0, 1, 0, 4, 15, 0, 32, 0, 128, 480, 127, 1151, 4095, 8191] [11, 13] rfl J X (by kernel_rfl) (by kernel_rfl) (by kernel_rfl) (by kernel_rfl) fun w X => ?_
  refine ⟨[(0, .pointer (some ⟨g111, 2, none⟩)), (1, .int .u64 x134), (2, (pP g150)), (3, .int .u64 x147.f0), (4, .int .u64 (if x147.f0 < x134 then x147.f0 else x134)), (5, .pointer (some ⟨g111, 3, none⟩)), (6, .int .u64 x135), (7, (pP g150)), (8, .int .u64 x147.f0), (9, .int .u64 (if x135 < x147.f0 then x147.f0 else x135)), (10, .pointer (some ⟨g111, 2, none⟩))], ?_⟩
  refine dF [0, 1, 2, 3, 4, 5, 6, 7, 8, 9, 10] [11] (by kernel_rfl) ⟨pt [(5, (pP g111))] rfl (fun U J => y_fab fa41_2 J rfl rfl), pt [(42, .pointer (some ⟨g111, 2, none⟩))] rfl (fun U J => y_ld uu31 (X.cell 2 rfl 2 _ rfl) J rfl rfl rfl), pt [(7, (pP g150))] rfl (fun U J => y_fab fa44_0 J rfl rfl), pt [(44, (pP g150))] rfl (fun U J => y_ld uu31 (X.cell 0 rfl 0 _ rfl) J rfl rfl rfl), pt [(43, .int .u64 x134), (45, .int .u64 x147.f0)] rfl (fun U J => r_minI rfl (J.ev rfl) (J.ev rfl)), pt [(5, (pP g111))] rfl (fun U J => y_fab fa41_3 J rfl rfl), pt [(47, .pointer (some ⟨g111, 3, none⟩))] rfl (fun U J => y_ld uu31 (X.cell 2 rfl 3 _ rfl) J rfl rfl rfl), pt [(7, (pP g150))] rfl (fun U J => y_fab fa44_0 J rfl rfl), pt [(49, (pP g150))] rfl (fun U J => y_ld uu31 (X.cell 0 rfl 0 _ rfl) J rfl rfl rfl), pt [(48, .int .u64 x135), (50, .int .u64 x147.f0)] rfl (fun U J => r_maxI rfl (J.ev rfl) (J.ev rfl)), pt [(5, (pP g111))] rfl (fun U J => y_fab fa41_2 J rfl rfl), trivial⟩ ⟨et [(46, .int .u64 (if x147.f0 < x134 then x147.f0 else x134)), (52, .pointer (some ⟨g111, 2, none⟩))] rfl (fun U J K hK => ?_), trivial⟩
  refine z_stb' 2 sz31 J X rfl (fun  w X => ?_) rfl
  refine hK _ [(12, .pointer (some ⟨g111, 3, none⟩))] _ rfl ?_
  refine dF [7, 8, 9, 12] [13] (by kernel_rfl) ⟨pt [(7, (pP g150))] rfl (fun U J => y_fab fa44_0 J rfl rfl), pt [(49, (pP g150))] rfl (fun U J => y_ld uu31 (X.cell 1 rfl 0 _ rfl) J rfl rfl rfl), pt [(48, .int .u64 x135), (50, .int .u64 x147.f0)] rfl (fun U J => r_maxI rfl (J.ev rfl) (J.ev rfl)), pt [(5, (pP g111))] rfl (fun U J => y_fab fa41_3 J rfl rfl), trivial⟩ ⟨et [(51, .int .u64 (if x135 < x147.f0 then x147.f0 else x135)), (53, .pointer (some ⟨g111, 3, none⟩))] rfl (fun U J K hK => ?_), trivial⟩
  refine z_stb' 0 sz31 J X rfl (fun  w X => ?_) rfl
  refine hK _ [] _ rfl ?_
  refine dEnd [] (by kernel_rfl) trivial ⟨by kernel_rfl, by kernel_rfl⟩ [(4, (pP g101)), (5, (pP g111)), (7, (pP g150)), (36, .slice A0 n0 c0), (37, .int .i64 (a0.length : Int)), (38, .int .i64 x140)] rfl (fun U J => ?_)
  refine hK151 _ _ ?_
  refine wp_seq_k fun K152 hK152 => ?_
  refine wp_draw [0, 1, 0, 4, 15, 0, 32, 0, 128, 480, 127, 1151, 4095, 8191] [11, 13] rfl J X (by kernel_rfl) (by kernel_rfl) (by kernel_rfl) (by kernel_rfl) fun w X => ?_
  refine ⟨[(0, .pointer (some ⟨g111, 4, none⟩)), (1, .int .i64 x136), (2, .pointer (some ⟨g150, 2, none⟩)), (3, .int .i64 x147.f2), (4, .int .i64 (if x147.f2 < x136 then x147.f2 else x136)), (5, .pointer (some ⟨g111, 5, none⟩)), (6, .int .i64 x137), (7, .pointer (some ⟨g150, 2, none⟩)), (8, .int .i64 x147.f2), (9, .int .i64 (if x137 < x147.f2 then x147.f2 else x137)), (10, .pointer (some ⟨g111, 4, none⟩))], ?_⟩
  refine dF [0, 1, 2, 3, 4, 5, 6, 7, 8, 9, 10] [11] (by kernel_rfl) ⟨pt [(5, (pP g111))] rfl (fun U J => y_fab fa41_4 J rfl rfl), pt [(54, .pointer (some ⟨g111, 4, none⟩))] rfl (fun U J => y_ld uu2 (X.cell 0 rfl 4 _ rfl) J rfl rfl rfl), pt [(7, (pP g150))] rfl (fun U J => y_fab fa44_2 J rfl rfl), pt [(56, .pointer (some ⟨g150, 2, none⟩))] rfl (fun U J => y_ld uu2 (X.cell 1 rfl 2 _ rfl) J rfl rfl rfl), pt [(55, .int .i64 x136), (57, .int .i64 x147.f2)] rfl (fun U J => r_minI rfl (J.ev rfl) (J.ev rfl)), pt [(5, (pP g111))] rfl (fun U J => y_fab fa41_5 J rfl rfl), pt [(59, .pointer (some ⟨g111, 5, none⟩))] rfl (fun U J => y_ld uu2 (X.cell 0 rfl 5 _ rfl) J rfl rfl rfl), pt [(7, (pP g150))] rfl (fun U J => y_fab fa44_2 J rfl rfl), pt [(61, .pointer (some ⟨g150, 2, none⟩))] rfl (fun U J => y_ld uu2 (X.cell 1 rfl 2 _ rfl) J rfl rfl rfl), pt [(60, .int .i64 x137), (62, .int .i64 x147.f2)] rfl (fun U J => r_maxI rfl (J.ev rfl) (J.ev rfl)), pt [(5, (pP g111))] rfl (fun U J => y_fab fa41_4 J rfl rfl), trivial⟩ ⟨et [(58, .int .i64 (if x147.f2 < x136 then x147.f2 else x136)), (64, .pointer (some ⟨g111, 4, none⟩))] rfl (fun U J K hK => ?_), trivial⟩
  refine z_stb' 0 sz2 J X rfl (fun  w X => ?_) rfl
  refine hK _ [(12, .pointer (some ⟨g111, 5, none⟩))] _ rfl ?_
  refine dF [7, 8, 9, 12] [13] (by kernel_rfl) ⟨pt [(7, (pP g150))] rfl (fun U J => y_fab fa44_2 J rfl rfl), pt [(61, .pointer (some ⟨g150, 2, none⟩))] rfl (fun U J => y_ld uu2 (X.cell 1 rfl 2 _ rfl) J rfl rfl rfl), pt [(60, .int .i64 x137), (62, .int .i64 x147.f2)] rfl (fun U J => r_maxI rfl (J.ev rfl) (J.ev rfl)), pt [(5, (pP g111))] rfl (fun U J => y_fab fa41_5 J rfl rfl), trivial⟩ ⟨et [(63, .int .i64 (if x137 < x147.f2 then x147.f2 else x137)), (65, .pointer (some ⟨g111, 5, none⟩))] rfl (fun U J K hK => ?_), trivial⟩
  refine z_stb' 0 sz2 J X rfl (fun  w X => ?_) rfl
  refine hK _ [] _ rfl ?_
  refine dEnd [] (by kernel_rfl) trivial ⟨by kernel_rfl, by kernel_rfl⟩ [(4, (pP g101)), (5, (pP g111)), (7, (pP g150)), (36, .slice A0 n0 c0), (37, .int .i64 (a0.length : Int)), (38, .int .i64 x140)] rfl (fun U J => ?_)
  refine hK152 _ _ ?_
  refine wp_draw [0, 1, 0, 4, 15, 0, 32, 0, 128, 480, 127, 1151, 4095, 8191] [11, 13] rfl J X (by kernel_rfl) (by kernel_rfl) (by kernel_rfl) (by kernel_rfl) fun w X => ?_
  refine ⟨[(0, .pointer (some ⟨g111, 6, none⟩)), (1, str s138), (2, .pointer (some ⟨g150, 3, none⟩)), (3, str x147.f3), (4, str (if (Op.bytesLess s138 x147.f3 || s138 == x147.f3) = true then s138 else x147.f3)), (5, .pointer (some ⟨g111, 7, none⟩)), (6, str s139), (7, .pointer (some ⟨g150, 3, none⟩)), (8, str x147.f3), (9, str (if Op.bytesLess s139 x147.f3 = true then x147.f3 else s139)), (10, .pointer (some ⟨g111, 6, none⟩))], ?_⟩
  refine dF [0, 1, 2, 3, 4, 5, 6, 7, 8, 9, 10] [11] (by kernel_rfl) ⟨pt [(5, (pP g111))] rfl (fun U J => y_fab fa41_6 J rfl rfl), pt [(66, .pointer (some ⟨g111, 6, none⟩))] rfl (fun U J => y_ld uu9 (X.cell 0 rfl 6 _ rfl) J rfl rfl rfl), pt [(7, (pP g150))] rfl (fun U J => y_fab fa44_3 J rfl rfl), pt [(68, .pointer (some ⟨g150, 3, none⟩))] rfl (fun U J => y_ld uu9 (X.cell 1 rfl 3 _ rfl) J rfl rfl rfl), pt [(67, str s138), (69, str x147.f3)] rfl (fun U J => r_minS rfl (J.ev rfl) (J.ev rfl)), pt [(5, (pP g111))] rfl (fun U J => y_fab fa41_7 J rfl rfl), pt [(71, .pointer (some ⟨g111, 7, none⟩))] rfl (fun U J => y_ld uu9 (X.cell 0 rfl 7 _ rfl) J rfl rfl rfl), pt [(7, (pP g150))] rfl (fun U J => y_fab fa44_3 J rfl rfl), pt [(73, .pointer (some ⟨g150, 3, none⟩))] rfl (fun U J => y_ld uu9 (X.cell 1 rfl 3 _ rfl) J rfl rfl rfl), pt [(72, str s139), (74, str x147.f3)] rfl (fun U J => r_maxS rfl (J.ev rfl) (J.ev rfl)), pt [(5, (pP g111))] rfl (fun U J => y_fab fa41_6 J rfl rfl), trivial⟩ ⟨et [(70, str (if (Op.bytesLess s138 x147.f3 || s138 == x147.f3) = true then s138 else x147.f3)), (76, .pointer (some ⟨g111, 6, none⟩))] rfl (fun U J K hK => ?_), trivial⟩
  refine z_stb' 0 sz9 J X rfl (fun  w X => ?_) rfl
  refine hK _ [(12, .pointer (some ⟨g111, 7, none⟩))] _ rfl ?_
  refine dF [7, 8, 9, 12] [13] (by kernel_rfl) ⟨pt [(7, (pP g150))] rfl (fun U J => y_fab fa44_3 J rfl rfl), pt [(73, .pointer (some ⟨g150, 3, none⟩))] rfl (fun U J => y_ld uu9 (X.cell 1 rfl 3 _ rfl) J rfl rfl rfl), pt [(72, str s139), (74, str x147.f3)] rfl (fun U J => r_maxS rfl (J.ev rfl) (J.ev rfl)), pt [(5, (pP g111))] rfl (fun U J => y_fab fa41_7 J rfl rfl), trivial⟩ ⟨et [(75, str (if Op.bytesLess s139 x147.f3 = true then x147.f3 else s139)), (77, .pointer (some ⟨g111, 7, none⟩))] rfl (fun U J K hK => ?_), trivial⟩
  refine z_stb' 0 sz9 J X rfl (fun  w X => ?_) rfl
  refine hK _ [] _ rfl ?_
  refine dEnd [] (by kernel_rfl) trivial ⟨by kernel_rfl, by kernel_rfl⟩ [(4, (pP g101)), (5, (pP g111)), (36, .slice A0 n0 c0), (37, .int .i64 (a0.length : Int)), (38, .int .i64 x140)] rfl (fun U J => ?_)
  refine hKx145 _ _ ?_
  refine hK144 _ _ ?_
  refine wp_reg ?_
  obtain ⟨x153, h154, G⟩ := ltt_ G
  refine x_v (v := .int .i64 x153) J (rv_i h154 (r_add rfl (J.ev rfl) (J.ev rfl))) rfl fun U J => ?_
  refine x_m J rfl fun U J => ?_
  refine wpList_nil ?_
  replace X := X.drop 1 |>.pk 1
  cases G
  exact ⟨_, N128_ _ rfl, J.sub _ rfl, X⟩
 replace G := iff' hb143 G
 refine wp_exit ?_
 cases G
 exact hx128_0 x134 x135 x136 x137 s138 s139 (T128_ _ rfl) U w (J.sub _ rfl) X
set_option maxRecDepth 100000 in
set_option maxHeartbeats 2000000 in
theorem F_slices_Chunk {r w : World} {L : List HP} {A : Option Addr} {n c : Nat} {k : Int} (hk : 1 ≤ k) (hS : SH r L w) :
  Ret Tryd.prog 24 #[.slice A n c, .int .i64 k] w fun v w' => ∃ g1 g2, v = .func (.func 44) #[] #[.pointer (some ⟨g1, 0, none⟩), .pointer (some ⟨g2, 0, none⟩)] ∧ SH r (blk g1 22 [.slice A n c] :: blk g2 3 [.int .i64 k] :: L) w' := by
 refine enter Tryd.func24 rfl Tryd.ntmps24 [(0, .slice A n c), (1, .int .i64 k)] rfl (by simp) ?_
 intro ac hA Qf hQ hQn
 refine wp_seq_k fun K1 hK1 => ?_
 refine wp_reg ?_
 refine x_box hA hS (fun g1 ac w hS hA => ?_) rfl rfl rfl rfl rfl rfl
 refine x_box hA hS (fun g2 ac w hS hA => ?_) rfl rfl rfl rfl rfl rfl
 refine x_assign hA (fun ac hA => ?_) rfl rfl rfl rfl rfl
 refine wpList_nil ?_
 refine hK1 _ _ ?_
 refine wp_seq_k fun K2 hK2 => ?_
 refine wp_seq_k fun K3 hK3 => ?_
 refine wp_reg ?_
 refine x_ld Tryd.underlying3 (hS.cell 0 rfl 0 _ rfl) hA (fun ac hA => ?_) rfl rfl rfl rfl rfl rfl
 refine x_val hA (r_ltI rfl (hA.ev rfl) (hA.ev rfl)) (fun ac hA => ?_) rfl rfl rfl
 refine wpList_nil ?_
 refine hK3 _ _ ?_
 refine c_f (by simp; omega) hA ?_ rfl
 refine wp_skip ?_
 refine hK2 _ _ ?_
 refine wp_seq_k fun K4 hK4 => ?_
 refine wp_reg ?_
 refine x_val hA (r_makeFunc rfl (mapev (vals := #[]) hA rfl) (mapev (vals := #[.pointer (some ⟨g1, 0, none⟩), .pointer (some ⟨g2, 0, none⟩)]) hA rfl)) (fun ac hA => ?_) rfl rfl rfl
 refine x_assign hA (fun ac hA => ?_) rfl rfl rfl rfl rfl
 refine wpList_nil ?_
 refine hK4 _ _ ?_
 refine wp_ret ?_
 refine hQ _ _ ?_
 refine lv Tryd.results24 hA rfl ?_
 exact ⟨g1, g2, rfl, hS.pk 1⟩
theorem szc : (Tryd.prog.info? 44).map (·.size) = some 5 := by kernel_rfl
theorem wr64 {i : Int} (h : -9223372036854775808 ≤ i ∧ i ≤ 9223372036854775807) : IntKind.i64.wrap i = i := by rw [IntKind.wrap_i64]; omega
theorem pcv_cut {A : Option Addr} {sz q m k : Nat} (hq : 1 ≤ q) (h : k * q < m) :
  Value.slice (if (k * q + min q (m - k * q)) = k * q then A else A.map (·.add (k * q * sz))) (k * q + min q (m - k * q) - k * q) (k * q + min q (m - k * q) - k * q) = pcv A sz q m k := by
 rw [if_neg (by omega), Nat.add_sub_cancel_left]
 rfl
set_option maxRecDepth 100000 in
set_option maxHeartbeats 4000000 in
theorem chunk_hands : Hands Tryd.prog 44 5 := by
 intro l b1 b2 A m c q J hq1 hq2 hmc hc hmx hAs hJ hY w h0
 refine CallsIn.mono (R := fun e w' => ∃ v, e = .returned v ∧ J ((m + q - 1) / q) w') (callsIn_wide.2 ?_) fun e w' ⟨v, he, h⟩ => ⟨⟨v, he⟩, h⟩
 refine enter Tryd.func44 rfl Tryd.ntmps44 [(0, .func (.yield l) #[] #[]), (1, .pointer (some ⟨b1, 0, none⟩)), (2, .pointer (some ⟨b2, 0, none⟩))] rfl (by simp) ?_
 intro ac hA Qf hQ hQn
 refine wp_seq_k fun K1 hK1 => ?_
 refine wp_reg ?_
 refine x_assign hA (fun ac hA => ?_) rfl rfl rfl rfl rfl
 refine wpList_nil ?_
 refine hK1 _ _ ?_
 refine wp_block_k fun Kx hKx => ?_
 refine wp_loop (fun a w => ∃ k : Nat, FR 31 [] a [(4, .int .i64 (k * q : Nat)), (0, .func (.yield l) #[] #[]), (1, .pointer (some ⟨b1, 0, none⟩)), (2, .pointer (some ⟨b2, 0, none⟩))] ∧ J k w ∧ k ≤ (m + q - 1) / q)
  (fun a w => match a.tmps.getD 4 undef with | .int _ i => (m + q) - i.toNat | _ => 0) ⟨0, by simpa using hA, h0, Nat.zero_le _⟩ ?_
 rintro a w ⟨k, hA, hJk, hkN⟩
 have h4 : a.tmps.getD 4 undef = .int .i64 (k * q : Nat) := hA.ev (x := .tmp 4) rfl
 obtain ⟨hc1, hc2, hdr⟩ := hJ k w hJk
 refine wp_seq_k fun K2 hK2 => ?_
 refine wp_seq_k fun K3 hK3 => ?_
 refine wp_reg ?_
 refine x_move hA (fun ac hA => ?_) rfl rfl rfl rfl rfl
 refine x_ld Tryd.underlying22 hc1 hA (fun ac hA => ?_) rfl rfl rfl rfl rfl rfl
 refine x_val hA (r_len Tryd.underlying22 rfl (hA.ev rfl)) (fun ac hA => ?_) rfl rfl rfl
 refine x_val hA (r_ltI rfl (hA.ev rfl) (hA.ev rfl)) (fun ac hA => ?_) rfl rfl rfl
 refine wpList_nil ?_
 refine hK3 _ _ ?_
 refine c_if hA rfl (fun hb => ?_) fun hb => ?_
 ·have hlt : k * q < m := by have := of_decide_eq_true hb; omega
  have hkq : k * q ≤ 4611686018427387904 := by omega
  have hkN' := (pcs_count hq1).1 hlt
  refine wp_skip ?_
  refine hK2 _ _ ?_
  refine wp_seq_k fun K4 hK4 => ?_
  refine wp_block_k fun Kb hKb => ?_
  refine wp_seq_k fun K5 hK5 => ?_
  refine wp_region_any rfl (draw_w0 [0, 0, 0, 6, 14, 31, 63] [] hA (by kernel_rfl) (by kernel_rfl) (by kernel_rfl) (by kernel_rfl) ?_)
  obtain ⟨hd1, hd2, hdd⟩ := hJ k _ hdr
  refine ⟨[(0, .int .i64 (q : Nat)), (1, .slice A m c), (2, .int .i64 (k * q : Nat)), (3, .slice (if c = ((k * q : Nat) : Int).toNat then A else A.map (·.add (((k * q : Nat) : Int).toNat * 5))) (m - ((k * q : Nat) : Int).toNat) (c - ((k * q : Nat) : Int).toNat)), (4, .int .i64 ((m - ((k * q : Nat) : Int).toNat : Nat) : Int)), (5, .int .i64 (if ((m - ((k * q : Nat) : Int).toNat : Nat) : Int) < ((q : Nat) : Int) then ((m - ((k * q : Nat) : Int).toNat : Nat) : Int) else ((q : Nat) : Int))), (6, .int .i64 (if ((m - ((k * q : Nat) : Int).toNat : Nat) : Int) < ((q : Nat) : Int) then ((m - ((k * q : Nat) : Int).toNat : Nat) : Int) else ((q : Nat) : Int)))], ?_⟩
  refine dEnd [0, 1, 2, 3, 4, 5, 6] (by kernel_rfl) ⟨?_, ?_, ?_, ?_, ?_, ?_, ?_, trivial⟩ ⟨by kernel_rfl, by kernel_rfl⟩ [(5, .int .i64 (min q (m - k * q) : Nat)), (4, .int .i64 (k * q : Nat)), (0, .func (.yield l) #[] #[]), (1, .pointer (some ⟨b1, 0, none⟩)), (2, .pointer (some ⟨b2, 0, none⟩))] ?_ (fun ac hA => ?_)
  ·exact pu rfl rfl [(2, .pointer (some ⟨b2, 0, none⟩))] (fun ac hA => y_ld Tryd.underlying3 hd2 hA rfl rfl rfl) rfl rfl
  ·exact pu rfl rfl [(1, .pointer (some ⟨b1, 0, none⟩))] (fun ac hA => y_ld Tryd.underlying22 hd1 hA rfl rfl rfl) rfl rfl
  ·exact pu rfl rfl [(4, .int .i64 (k * q : Nat))] (fun ac hA => r_move rfl (hA.ev rfl)) rfl rfl
  ·exact pu rfl rfl [(14, .slice A m c), (15, .int .i64 (k * q : Nat))] (fun ac hA => r_slice_l Tryd.underlying22 szc rfl (hA.ev rfl) (hA.ev rfl) (by omega) (by omega)) rfl rfl
  ·exact pu rfl rfl [(16, .slice (if c = ((k * q : Nat) : Int).toNat then A else A.map (·.add (((k * q : Nat) : Int).toNat * 5))) (m - ((k * q : Nat) : Int).toNat) (c - ((k * q : Nat) : Int).toNat))] (fun ac hA => r_len Tryd.underlying22 rfl (hA.ev rfl)) rfl rfl
  ·exact pu rfl rfl [(13, .int .i64 (q : Nat)), (17, .int .i64 ((m - ((k * q : Nat) : Int).toNat : Nat) : Int))] (fun ac hA => r_minI rfl (hA.ev rfl) (hA.ev rfl)) rfl rfl
  ·exact pu rfl rfl [(18, .int .i64 (if ((m - ((k * q : Nat) : Int).toNat : Nat) : Int) < ((q : Nat) : Int) then ((m - ((k * q : Nat) : Int).toNat : Nat) : Int) else ((q : Nat) : Int)))] (fun ac hA => r_assign rfl (hA.ev rfl)) rfl rfl
  ·have e : (if ((m - ((k * q : Nat) : Int).toNat : Nat) : Int) < ((q : Nat) : Int) then ((m - ((k * q : Nat) : Int).toNat : Nat) : Int) else ((q : Nat) : Int)) = (min q (m - k * q) : Nat) := by
    rw [show ((k * q : Nat) : Int).toNat = k * q from by omega]
    split <;> omega
   rw [e]
   rfl
  refine hK5 _ _ ?_
  refine wp_seq_k fun K6 hK6 => ?_
  refine (wpIn_wide (n := 6)).1 (wpIn_region_list ?_)
  refine xi_val hA (r_move rfl (hA.ev rfl)) (fun ac hA => ?_) rfl rfl rfl rfl
  refine xi_val hA (y_ld Tryd.underlying22 hd1 hA rfl rfl rfl) (fun ac hA => ?_) rfl rfl rfl rfl
  refine xi_val hA (r_move rfl (hA.ev rfl)) (fun ac hA => ?_) rfl rfl rfl rfl
  refine xi_val hA (r_move rfl (hA.ev rfl)) (fun ac hA => ?_) rfl rfl rfl rfl
  refine xi_val hA (r_move rfl (hA.ev rfl)) (fun ac hA => ?_) rfl rfl rfl rfl
  refine xi_val hA (r_add rfl (hA.ev rfl) (hA.ev rfl)) (fun ac hA => ?_) rfl rfl rfl rfl
  refine xi_val hA (r_move rfl (hA.ev rfl)) (fun ac hA => ?_) rfl rfl rfl rfl
  refine xi_val hA (r_move rfl (hA.ev rfl)) (fun ac hA => ?_) rfl rfl rfl rfl
  refine xi_val hA (r_add rfl (hA.ev rfl) (hA.ev rfl)) (fun ac hA => ?_) rfl rfl rfl rfl
  have ew : IntKind.i64.wrap (((k * q : Nat) : Int) + ((min q (m - k * q) : Nat) : Int)) = ((k * q + min q (m - k * q) : Nat) : Int) := by
   rw [show ((k * q : Nat) : Int) + ((min q (m - k * q) : Nat) : Int) = ((k * q + min q (m - k * q) : Nat) : Int) from by omega]
   exact wr64 (by omega)
  rw [ew] at hA
  refine xi_val (v := pcv A 5 q m k) hA ?_ (fun ac hA => ?_) rfl rfl rfl rfl
  ·rw [← pcv_cut hq1 hlt]
   refine rv_e ?_ (r_slice_lhm (sz := 5) Tryd.underlying22 szc rfl (hA.ev rfl) (hA.ev rfl) (hA.ev rfl) (hA.ev rfl) ⟨by omega, by omega, by omega, by omega⟩)
   simp only [Int.toNat_natCast]
  refine xi_yield hA (hY k _ hdr hlt) (fun e w' h => ⟨h.1, rfl, h.2⟩) (fun ac w3 hR hA => ?_) rfl rfl rfl rfl rfl rfl
  refine xi_val hA (r_not rfl (hA.ev rfl)) (fun ac hA => ?_) rfl rfl rfl rfl
  refine wpListIn_nil ?_
  refine hK6 _ _ ?_
  refine c_f (b := !true) rfl hA ?_ rfl
  refine wp_skip ?_
  refine hKb _ _ ?_
  refine hK4 _ _ ?_
  obtain ⟨_, hJ3⟩ := hR
  obtain ⟨_, hc3, _⟩ := hJ _ _ hJ3
  refine wp_reg ?_
  refine x_move hA (fun ac hA => ?_) rfl rfl rfl rfl rfl
  refine x_ld Tryd.underlying3 hc3 hA (fun ac hA => ?_) rfl rfl rfl rfl rfl rfl
  refine x_val hA (r_add rfl (hA.ev rfl) (hA.ev rfl)) (fun ac hA => ?_) rfl rfl rfl
  refine x_assign hA (fun ac hA => ?_) rfl rfl rfl rfl rfl
  refine wpList_nil ?_
  have ew2 : IntKind.i64.wrap (((k * q : Nat) : Int) + ((q : Nat) : Int)) = (((k + 1) * q : Nat) : Int) := by
   rw [show ((k * q : Nat) : Int) + ((q : Nat) : Int) = (((k + 1) * q : Nat) : Int) from by rw [Nat.add_mul]; omega]
   exact wr64 (by rw [Nat.add_mul]; omega)
  rw [ew2] at hA
  refine ⟨⟨k + 1, hA.sub _ rfl, hJ3, hkN'⟩, ?_⟩
  rw [h4, show ac.tmps.getD 4 undef = .int .i64 ((k + 1) * q : Nat) from hA.ev (x := .tmp 4) rfl]
  simp only [Int.toNat_natCast, Nat.add_mul]
  omega
 ·have hge : ¬ k * q < m := by have := of_decide_eq_false hb; omega
  have hkN' : ¬ k < (m + q - 1) / q := fun h => hge ((pcs_count hq1).2 h)
  refine wp_exit ?_
  refine hKx _ _ ?_
  refine hQn _ _ ?_
  refine lv0n Tryd.results44 hA ?_
  rw [show (m + q - 1) / q = k from by omega]
  exact hJk
noncomputable section
set_option linter.unusedSimpArgs false
def segment_uints_b1 (l316 : (List Int)) : Option ((List Int)) :=
  some l316
def segment_uints_x1_0 (l368 : (List Int)) : Option ((List Int)) :=
  segment_uints_b1 l368
def segment_uints_l1 (a1 : (List Int)) (l342 : (List Int)) (x346 : Int) : Option (((List Int) × Int) ⊕ (((List Int)))) :=
  if (decide (x346 < (a1.length : Int))) = true then ((at_ a1 x346).bind fun x379 => ((column_Uint l342 x379).bind fun y382 => (ltt (IntKind.i64.wrap (x346 + 1)) fun x387 => (some (.inl (y382, x387)))))) else (some (.inr (l342)))
def segment_uints (a0 : (List Int)) (a1 : (List Int)) : Option ((List Int)) :=
  (loop (fun s => segment_uints_l1 a1 s.1 s.2) (a0, 0)).bind fun t => segment_uints_x1_0 t
def segment_Write_r1 (l424 : (List Int)) (l428 : (List S41)) (l471 : (List S44)) : Option ((List Int) × (List S41)) :=
  (segment_chunk l471 (l424.length : Int)).bind fun y475 => (chk (l428.length + [y475].length ≤ 140737488355328 / 80) ((event_Lay l424 l471).bind fun y482 => (some (y482, l428 ++ [y475]))))
def segment_Write_b2 (l424 : (List Int)) (l970 : (List Int)) : Option ((List Int) × Int) :=
  (page_Lay l424 102 l970).bind fun y976 => (ltt (IntKind.u8.wrap (l424.length : Int)) fun x982 => (ltt (ishr .i64 (l424.length : Int) 8) fun x984 => (ltt (IntKind.u8.wrap x984) fun x986 => (ltt (ishr .i64 (l424.length : Int) 16) fun x988 => (ltt (IntKind.u8.wrap x988) fun x990 => (ltt (ishr .i64 (l424.length : Int) 24) fun x992 => (ltt (IntKind.u8.wrap x992) fun x994 => ((page_Lay y976 116 [x982, x986, x990, x994]).bind fun y997 => (some (y997, 0))))))))))
def segment_Write_x1_5 (l424 : (List Int)) (l1105 : (List Int)) : Option ((List Int) × Int) :=
  segment_Write_b2 l424 l1105
def segment_Write_l1 (l428 : (List S41)) (l1051 : (List Int)) (x1055 : Int) : Option (((List Int) × Int) ⊕ (((List Int)))) :=
  if (decide (x1055 < (l428.length : Int))) = true then ((at_ l428 x1055).bind fun x1116 => (ltt (IntKind.u64.wrap x1116.f0) fun x1121 => (ltt (IntKind.u64.wrap x1116.f1) fun x1123 => ((segment_uints l1051 [x1121, x1123, x1116.f2, x1116.f3]).bind fun y1126 => ((column_Int y1126 x1116.f4).bind fun y1132 => ((column_Int y1132 x1116.f5).bind fun y1137 => ((column_Text y1137 x1116.f6).bind fun y1142 => ((column_Text y1142 x1116.f7).bind fun y1147 => (ltt (IntKind.i64.wrap (x1055 + 1)) fun x1152 => (some (.inl (y1147, x1152)))))))))))) else (some (.inr (l1051)))
def segment_Write_rx1 (a1 : Int) (l424 : (List Int)) (l428 : (List S41)) : Option ((List Int) × Int) :=
  ltt (IntKind.u64.wrap a1) fun x494 => (ltt (IntKind.u64.wrap (l428.length : Int)) fun x496 => ((segment_uints [] [x494, x496]).bind fun y499 => ((loop (fun s => segment_Write_l1 l428 s.1 s.2) (y499, 0)).bind fun t => segment_Write_x1_5 l424 t)))
def segment_Write_b1 (a0 : (List S44)) (a1 : Int) : Option ((List Int) × Int) :=
  (chk (a0.length ≤ 4611686018427387904) ((pcs 64 a0).foldlM (fun s l => segment_Write_r1 s.1 s.2 l) ([], []))).bind fun t => segment_Write_rx1 a1 t.1 t.2
def segment_Write_x2_1 (a0 : (List S44)) (a1 : Int) : Option ((List Int) × Int) :=
  segment_Write_b1 a0 a1
def segment_Write_l2 (a0 : (List S44)) (a1 : Int) (x1181 : Int) : Option ((Int) ⊕ ((Unit) ⊕ ((List Int) × Int))) :=
  if (decide (x1181 < (a0.length : Int))) = true then ((at_ a0 x1181).bind fun x1218 => ((event_Form x1218 a1).bind fun y1224 => (if (!y1224) = true then (some (.inr (.inr ([], 3)))) else ((at_ a0 0).bind fun x1229 => (ltt (IntKind.u64.wrap x1181) fun x1232 => (ltt (IntKind.u64.wrap (x1229.f0 + x1232)) fun x1234 => (if (x1218.f0 != x1234) = true then (some (.inr (.inr ([], 8)))) else (ltt (IntKind.i64.wrap (x1181 + 1)) fun x1238 => (some (.inl (x1238))))))))))) else (some (.inr (.inl ())))
def segment_Write_j1 (a0 : (List S44)) (a1 : Int) (b107 : Bool) : Option ((List Int) × Int) :=
  if b107 = true then (some ([], 1)) else (if (decide (1024 < (a0.length : Int))) = true then (some ([], 2)) else ((loop (fun s => segment_Write_l2 a0 a1 s) (0)).bind fun t => match t with | (.inl t) => segment_Write_x2_1 a0 a1 | (.inr t) => some t))
def segment_Write (a0 : (List S44)) (a1 : Int) : Option ((List Int) × Int) :=
  if ((a0.length : Int) == 0) = true then (segment_Write_j1 a0 a1 true) else (if (decide (a1 < 1)) = true then (segment_Write_j1 a0 a1 true) else (segment_Write_j1 a0 a1 (decide (8 < a1))))
end
theorem F_segment_uints {r : World} {L : List HP} {w : World} (a0 : (List Int)) (a1 : (List Int)) (A0 : Option Addr) (n0 : Nat) (c0 : Nat) (A1 : Option Addr) (n1 : Nat) (c1 : Nat) {y : ((List Int))} (G : segment_uints a0 a1 = some y) (ha1 : RdL L (kI .u64) A1 n1 c1 a1) (X : SH r (own (kI .u8) 5 A0 n0 c0 a0 :: L) w) :
  Ret Tryd.prog 27 #[.slice A0 n0 c0, .slice A1 n1 c1] w fun v w' => ∃ (B0 : Option Addr) (m0 : Nat) (d0 : Nat), v = .slice B0 m0 d0 ∧ SH r (own (kI .u8) 5 B0 m0 d0 y :: L) w' := by
 refine enter Tryd.func27 rfl Tryd.ntmps27 [(0, .slice A0 n0 c0), (1, .slice A1 n1 c1)] rfl (by simp) ?_
 intro U J Qf hQ hQn
 unfold segment_uints at G
 refine ws fun K100 hK100 => ?_
 refine x_m J rfl fun U J => ?_
 refine wn (hK100 _ _ ?_)
 refine wp_seq_k fun K101 hK101 => ?_
 refine ws fun K102 hK102 => ?_
 refine x_m J rfl fun U J => ?_
 refine x_len' uu97 (X.rdl 1 ha1 rfl).2.1 J (fun U J => ?_) rfl
 refine x_m J rfl fun U J => ?_
 refine wn (hK102 _ _ ?_)
 refine wp_block_k fun Kx103 hKx103 => ?_
 have hb1 : ∀ (l104 : (List Int)), segment_uints_b1 l104 = some y → ∀ (A105 : Option Addr) (n106 : Nat) (c107 : Nat) (U : Act) (w : World), FR 18 [] U [(0, .slice A105 n106 c107)] → SH r (own (kI .u8) 5 A105 n106 c107 l104 :: L) w → Kx103 U w := by
  intro l104 G A105 n106 c107 U w J X
  unfold segment_uints_b1 at G
  refine hKx103 _ _ ?_
  refine hK101 _ _ ?_
  refine ws fun K108 hK108 => ?_
  refine x_m J rfl fun U J => ?_
  refine x_m J rfl fun U J => ?_
  refine wn (hK108 _ _ ?_)
  refine wp_ret ?_
  cases G
  refine hQ _ _ ?_
  refine lv Tryd.results27 J rfl ?_
  exact ⟨A105, n106, c107, rfl, X⟩
 obtain ⟨t109, hl109, G⟩ := bnd G
 have hx109_0 : ∀ (l110 : (List Int)), (l110) = t109 → ∀ (A111 : Option Addr) (n112 : Nat) (c109 : Nat) (U : Act) (w : World), FR 18 [] U [(0, .slice A111 n112 c109)] → SH r (own (kI .u8) 5 A111 n112 c109 l110 :: L) w → Kx103 U w := by
  intro l110 ht A111 n112 c109 U w J X
  subst ht
  replace G : segment_uints_x1_0 l110 = some y := G
  unfold segment_uints_x1_0 at G
  exact hb1 l110 G A111 n112 c109 U w (J.sub _ rfl) X
 refine wp_loop_fn hl109 (fun s U w => ∃ (A113 : Option Addr) (n114 : Nat) (c115 : Nat), FR 18 [] U [(0, .slice A113 n114 c115), (7, .slice A1 n1 c1), (8, .int .i64 (a1.length : Int)), (9, .int .i64 s.2)] ∧ SH r (own (kI .u8) 5 A113 n114 c115 s.1 :: L) w) ⟨A0, n0, c0, J.sub _ rfl, X⟩ ?_
 intro N109 s109 o109 G N109_ T109_ U w hLab
 obtain ⟨l116, x117⟩ := s109
 replace G : segment_uints_l1 a1 l116 x117 = some o109 := G
 unfold segment_uints_l1 at G
 try dsimp only at hLab
 obtain ⟨A113, n114, c115, J, X⟩ := hLab
 refine ws fun K118 hK118 => ?_
 refine x_v J (r_ltI rfl (J.ev rfl) (J.ev rfl)) rfl fun U J => ?_
 refine wn (hK118 _ _ ?_)
 refine wp_seq_k fun K119 hK119 => ?_
 refine c_if J rfl (fun hb120 => ?_) fun hb120 => ?_
 ·replace G := ift hb120 G
  refine wp_skip ?_
  refine hK119 _ _ ?_
  refine wp_seq_k fun K121 hK121 => ?_
  refine wp_block_k fun Kx122 hKx122 => ?_
  refine ws fun K123 hK123 => ?_
  obtain ⟨x124, h125, G⟩ := bnd G
  refine x_ia' uu97 sz31 (X.rdl 1 ha1 rfl) h125 J (fun U J => ?_) rfl
  obtain ⟨cs, hV, hc126⟩ := el (X.rdl 1 ha1 rfl) h125
  obtain rfl := hV
  refine x_ld' uu31 (hc126 0 _ rfl) J (fun U J => ?_) rfl
  refine x_m J rfl fun U J => ?_
  refine wn (hK123 _ _ ?_)
  refine wp_reg ?_
  refine x_m J rfl fun U J => ?_
  refine x_m J rfl fun U J => ?_
  obtain ⟨y127, h128, G⟩ := bnd G
  refine x_call' en48 J (F_column_Uint (L := L) l116 x124 A113 n114 c115 h128 X) (fun v U w hR J => ?_) rfl
  obtain ⟨B129, m130, d131, rfl, X⟩ := hR
  refine x_m J rfl fun U J => ?_
  refine wpList_nil ?_
  refine hKx122 _ _ ?_
  refine hK121 _ _ ?_
  refine wp_reg ?_
  obtain ⟨x132, h133, G⟩ := ltt_ G
  refine x_v (v := .int .i64 x132) J (rv_i h133 (r_add rfl (J.ev rfl) (J.ev rfl))) rfl fun U J => ?_
  refine x_m J rfl fun U J => ?_
  refine wpList_nil ?_
  cases G
  exact ⟨_, N109_ _ rfl, B129, m130, d131, J.sub _ rfl, X⟩
 replace G := iff' hb120 G
 refine wp_exit ?_
 cases G
 exact hx109_0 l116 (T109_ _ rfl) A113 n114 c115 U w (J.sub _ rfl) X
theorem F_segment_Write {r : World} {L : List HP} {w : World} {Z : Nat → Prop} {wz : World} (a0 : (List S44)) (a1 : Int) (A0 : Option Addr) (n0 : Nat) (c0 : Nat) {y : ((List Int) × Int)} (G : segment_Write a0 a1 = some y) (ha0 : Imm Z wz k44 A0 n0 c0 a0) (hG0 : Imm Z wz (kI .u32) (some ⟨0, 0, none⟩) 16 16 gl_page_table) (X : SH r (zone Z wz :: L) w) :
  Ret Tryd.prog 11 #[.slice A0 n0 c0, .int .i64 a1] w fun v w' => ∃ (Z' : Nat → Prop) (wz' : World) (B0 : Option Addr) (m0 : Nat) (d0 : Nat), v = .tuple #[(.slice B0 m0 d0), (.int .i64 y.2)] ∧ Sub Z wz Z' wz' ∧ SH r (own (kI .u8) 5 B0 m0 d0 y.1 :: zone Z' wz' :: L) w' := by
 refine enterM Tryd.func11 rfl Tryd.ntmps11 [(0, .slice A0 n0 c0), (1, .int .i64 a1)] rfl (by simp) ?_
 intro U J Qf hQ hQD
 unfold segment_Write at G
 refine ws fun K100 hK100 => ?_
 refine x_m J rfl fun U J => ?_
 refine x_m J rfl fun U J => ?_
 refine wn (hK100 _ _ ?_)
 refine wp_seq_k fun K101 hK101 => ?_
 refine wp_block_k fun Kx102 hKx102 => ?_
 refine wp_seq_k fun K103 hK103 => ?_
 have hj1 : ∀ (b104 : Bool), segment_Write_j1 a0 a1 b104 = some y → ∀ (U : Act) (w : World), FR 126 [] U [(0, .slice A0 n0 c0), (1, .int .i64 a1), (15, .bool b104)] → SH r (zone Z wz :: L) w → K103 U w := by
  intro b104 G U w J X
  unfold segment_Write_j1 at G
  refine hK103 _ _ ?_
  refine c_if J rfl (fun hb105 => ?_) fun hb105 => ?_
  ·replace G := ift hb105 G
   refine ws fun K106 hK106 => ?_
   refine x_m J rfl fun U J => ?_
   refine x_m J rfl fun U J => ?_
   refine wn (hK106 _ _ ?_)
   refine wp_ret ?_
   replace X := SH.nil_own (d := (kI .u8)) (e := 5) X
   replace X := X.pk 1 |>.pk 1
   cases G
   refine hQ _ _ ?_
   refine lv2 Tryd.results11 J rfl rfl ?_
   exact ⟨Z, wz, none, 0, 0, rfl, (Sub.refl _ _), X⟩
  replace G := iff' hb105 G
  refine ws fun K107 hK107 => ?_
  refine x_m J rfl fun U J => ?_
  refine x_len' uu22 (X.imm 0 ha0 rfl).2.1 J (fun U J => ?_) rfl
  refine x_v J (r_gtI rfl (J.ev rfl) (J.ev rfl)) rfl fun U J => ?_
  refine x_m J rfl fun U J => ?_
  refine wn (hK107 _ _ ?_)
  refine c_if J rfl (fun hb108 => ?_) fun hb108 => ?_
  ·replace G := ift hb108 G
   refine ws fun K109 hK109 => ?_
   refine x_m J rfl fun U J => ?_
   refine x_m J rfl fun U J => ?_
   refine wn (hK109 _ _ ?_)
   refine wp_ret ?_
   replace X := SH.nil_own (d := (kI .u8)) (e := 5) X
   replace X := X.pk 1 |>.pk 1
   cases G
   refine hQ _ _ ?_
   refine lv2 Tryd.results11 J rfl rfl ?_
   exact ⟨Z, wz, none, 0, 0, rfl, (Sub.refl _ _), X⟩
  replace G := iff' hb108 G
  refine wp_skip ?_
  refine hKx102 _ _ ?_
  refine hK101 _ _ ?_
  refine wp_seq_k fun K110 hK110 => ?_
  refine ws fun K111 hK111 => ?_
  refine x_m J rfl fun U J => ?_
  refine x_len' uu22 (X.imm 0 ha0 rfl).2.1 J (fun U J => ?_) rfl
  refine x_m J rfl fun U J => ?_
  refine wn (hK111 _ _ ?_)
  refine wp_block_k fun Kx112 hKx112 => ?_
  have hb1 : segment_Write_b1 a0 a1 = some y → ∀ (U : Act) (w : World), FR 126 [] U [(0, .slice A0 n0 c0), (1, .int .i64 a1)] → SH r (zone Z wz :: L) w → Kx112 U w := by
   intro G U w J X
   unfold segment_Write_b1 at G
   refine hKx112 _ _ ?_
   refine hK110 _ _ ?_
   refine ws fun K113 hK113 => ?_
   refine x_alloc' (cs := [.slice none 0 0]) zr24 J X (fun g114 U w X J => ?_) rfl
   refine wn (hK113 _ _ ?_)
   refine ws fun K115 hK115 => ?_
   refine x_alloc' (cs := [.slice none 0 0]) zr38 J X (fun g116 U w X J => ?_) rfl
   refine wn (hK115 _ _ ?_)
   refine wp_seq_k fun K117 hK117 => ?_
   refine ws fun K118 hK118 => ?_
   refine x_m J rfl fun U J => ?_
   refine x_call' en24 J (F_slices_Chunk (L := blk g116 38 [.slice none 0 0] :: blk g114 24 [.slice none 0 0] :: zone Z wz :: L) (A := A0) (n := n0) (c := c0) (k := 64) (by decide) X) (fun v U w hR J => ?_) rfl
   obtain ⟨g119, g120, rfl, X⟩ := hR
   refine wn (hK118 _ _ ?_)
   refine wp_block_k fun Kx121 hKx121 => ?_
   replace X := SH.nil_own (d := (kI .u8)) (e := 5) X
   replace X := SH.nil_own (d := k41) (e := 41) X
   replace X := X.pk 6 |>.pk 1 |>.pk 2 |>.pk 4 |>.pk 4 |>.pk 5 |>.pk 6
   obtain ⟨t122, hl122, G⟩ := bnd G
   obtain ⟨hm122, hl122⟩ := chk_some hl122
   refine wp_pieces (d := k44) chunk_hands en44 rfl hl122 (J.sub [(1, .int .i64 a1), (8, (pP g114)), (9, (pP g116)), (54, .func (.func 44) #[] #[.pointer (some ⟨g119, 0, none⟩), (pP g120)])] rfl) (Imm.pieces ha0) hm122 (fun (s : ((List Int) × (List S41))) E => ∃ (Z123 : Nat → Prop) (wz124 : World) (A125 : Option Addr) (n126 : Nat) (c127 : Nat) (A128 : Option Addr) (n129 : Nat) (c130 : Nat), Sub Z wz Z123 wz124 ∧ Imm Z123 wz124 k44 A0 n0 c0 a0 ∧ E = [blk g114 24 [.slice A125 n126 c127], blk g116 38 [.slice A128 n129 c130], blk g119 22 [.slice A0 n0 c0], blk g120 3 [.int .i64 64], own (kI .u8) 5 A125 n126 c127 s.1, own k41 41 A128 n129 c130 s.2, zone Z123 wz124]) [blk g114 24 [.slice none 0 0], blk g116 38 [.slice none 0 0], blk g119 22 [.slice A0 n0 c0], blk g120 3 [.int .i64 64], own (kI .u8) 5 none 0 0 [], own k41 41 none 0 0 [], zone Z wz] ⟨Z, wz, none, 0, 0, none, 0, 0, (Sub.refl _ _), ha0, rfl⟩ X ?_ ?_ ?_ rfl rfl rfl rfl rfl rfl
   ·rintro s E ⟨Z123, wz124, A125, n126, c127, A128, n129, c130, h131, h132, rfl⟩
    exact ⟨2, 3, _, _, rfl, rfl⟩
   ·intro lp k s122 o122 E B U w hlt G hX J X Qr hLO hK
    obtain ⟨l133, l134⟩ := s122
    try dsimp only at hX
    obtain ⟨Z123, wz124, A125, n126, c127, A128, n129, c130, h131, h132, rfl⟩ := hX
    replace X : SH r (blk g114 24 [.slice A125 n126 c127] :: blk g116 38 [.slice A128 n129 c130] :: blk g119 22 [.slice A0 n0 c0] :: blk g120 3 [.int .i64 64] :: own (kI .u8) 5 A125 n126 c127 l133 :: own k41 41 A128 n129 c130 l134 :: zone Z123 wz124 :: B) w := X
    obtain ⟨A135, n136, hpv, h137⟩ := Imm.piece h132 rfl hlt
    replace J := hpv ▸ J
    clear hpv
    generalize List.take 64 (List.drop (k * 64) a0) = l138 at G h137
    replace G : segment_Write_r1 l133 l134 l138 = some o122 := G
    unfold segment_Write_r1 at G
    refine in_block_k fun Kx139 hKx139 => ?_
    refine wpIn_seq_k fun K140 hK140 => ?_
    refine in_draw [0, 0, 0, 4, 14, 30, 63, 127] [4, 5, 6, 7] rfl J X (by kernel_rfl) (by kernel_rfl) (by kernel_rfl) (by kernel_rfl) (by kernel_rfl) hLO fun w X => ?_
    refine ⟨[(0, .slice A128 n129 c130), (1, .slice A135 n136 n136), (2, .slice A125 n126 c127), (3, .int .i64 (l133.length : Int))], ?_⟩
    refine dF [0, 1, 2, 3] [4] (by kernel_rfl) ⟨pt [(9, (pP g116))] rfl (fun U J => y_ld uu38 (X.cell 1 rfl 0 _ rfl) J rfl rfl rfl), pm rfl, pt [(8, (pP g114))] rfl (fun U J => y_ld uu24 (X.cell 0 rfl 0 _ rfl) J rfl rfl rfl), pt [(58, .slice A125 n126 c127)] rfl (fun U J => y_len uu24 (X.rd 4 rfl).2.1 J rfl rfl), trivial⟩ ⟨et [(57, .slice A135 n136 n136), (59, .int .i64 (l133.length : Int))] rfl (fun U J K hK => ?_), trivial⟩
    obtain ⟨y141, h142, G⟩ := bnd G
    refine z_call' en25 J (F_segment_chunk (L := blk g114 24 [.slice A125 n126 c127] :: blk g116 38 [.slice A128 n129 c130] :: blk g119 22 [.slice A0 n0 c0] :: blk g120 3 [.int .i64 64] :: own (kI .u8) 5 A125 n126 c127 l133 :: own k41 41 A128 n129 c130 l134 :: zone Z123 wz124 :: B) l138 (l133.length : Int) A135 n136 n136 h142 (h137.rdl 6 rfl) X) (fun v w hR => ?_) rfl
    obtain ⟨rfl, X⟩ := hR
    refine hK _ [] _ rfl ?_
    refine dF [0] [5] (by kernel_rfl) ⟨pt [(9, (pP g116))] rfl (fun U J => y_ld uu38 (X.cell 1 rfl 0 _ rfl) J rfl rfl rfl), trivial⟩ ⟨et [(60, .agg #[.int .i64 y141.f0, .int .i64 y141.f1, .int .u64 y141.f2, .int .u64 y141.f3, .int .i64 y141.f4, .int .i64 y141.f5, str y141.f6, str y141.f7])] rfl (fun U J K hK => ?_), trivial⟩
    refine z_bsl' (d := k41) (e := 41) (ps := #[(0, .agg #[.int .i64 y141.f0, .int .i64 y141.f1, .int .u64 y141.f2, .int .u64 y141.f3, .int .i64 y141.f4, .int .i64 y141.f5, str y141.f6, str y141.f7])]) (cells := [.int .i64 y141.f0, .int .i64 y141.f1, .int .u64 y141.f2, .int .u64 y141.f3, .int .i64 y141.f4, .int .i64 y141.f5, str y141.f6, str y141.f7]) (xs := [y141]) (fun w => by kernel_rfl) rfl ⟨[.int .i64 y141.f0, .int .i64 y141.f1, .int .u64 y141.f2, .int .u64 y141.f3, .int .i64 y141.f4, .int .i64 y141.f5, str y141.f6, str y141.f7], _, rfl, rfl, rfl⟩ J X (fun g143 w X => ?_) rfl
    refine hK _ [] _ rfl ?_
    refine dF [0] [6] (by kernel_rfl) ⟨pt [(9, (pP g116))] rfl (fun U J => y_ld uu38 (X.cell 2 rfl 0 _ rfl) J rfl rfl rfl), trivial⟩ ⟨et [(56, .slice A128 n129 c130), (61, .slice (some ⟨g143, 0, none⟩) 1 1)] rfl (fun U J K hK => ?_), trivial⟩
    obtain ⟨h144, G⟩ := chk_some G
    have hr := X.rd 0 rfl
    refine z_app' 6 inf41 uu38 J X hr.1 hr.2.1 h144 rfl (fun A145 n146 c147 w X => ?_) rfl
    refine hK _ [] _ rfl ?_
    refine dF [] [7] (by kernel_rfl) trivial ⟨et [(9, (pP g116)), (62, .slice A145 n146 c147)] rfl (fun U J K hK => ?_), trivial⟩
    refine z_stb' 3 sz38 J X rfl (fun  w X => ?_) rfl
    refine hK _ [] _ rfl ?_
    refine dEnd [] (by kernel_rfl) trivial ⟨by kernel_rfl, by kernel_rfl⟩ [(1, .int .i64 a1), (8, (pP g114)), (9, (pP g116)), (10, .slice A135 n136 n136), (54, .func (.func 44) #[] #[.pointer (some ⟨g119, 0, none⟩), (pP g120)])] rfl (fun U J => ?_)
    refine hK140 _ _ ?_
    refine in_reg hLO (by kernel_rfl) ?_
    refine x_ld' uu24 (X.cell 3 rfl 0 _ rfl) J (fun U J => ?_) rfl
    refine x_m J rfl fun U J => ?_
    replace X := X.pk 7 |>.pk 7
    obtain ⟨y148, h149, G⟩ := bnd G
    refine x_call' en26 J (F_event_Lay (L := blk g116 38 [.slice A145 n146 c147] :: own k41 41 A145 n146 c147 (l134 ++ [y141]) :: own k41 41 (some ⟨g143, 0, none⟩) 1 1 [y141] :: blk g114 24 [.slice A125 n126 c127] :: blk g119 22 [.slice A0 n0 c0] :: blk g120 3 [.int .i64 64] :: B) l133 l138 A125 n126 c127 A135 n136 n136 h149 h137 (Imm.sub hG0 h131) X) (fun v U w hR J => ?_) rfl
    obtain ⟨Z150, wz151, B152, m153, d154, rfl, h155, X⟩ := hR
    have h156 := Imm.sub h137 h155
    have h157 := Imm.sub h132 h155
    refine x_stb' 5 sz24 J X rfl (fun  U w X J => ?_) rfl
    refine wpList_nil ?_
    refine hKx139 _ _ ?_
    replace X := X.drop 5 |>.pk 2 |>.pk 4 |>.pk 3 |>.pk 6 |>.pk 6 |>.pk 6 |>.pk 6
    cases G
    exact hK _ _ [blk g114 24 [.slice B152 m153 d154], blk g116 38 [.slice A145 n146 c147], blk g119 22 [.slice A0 n0 c0], blk g120 3 [.int .i64 64], own (kI .u8) 5 B152 m153 d154 y148, own k41 41 A145 n146 c147 (l134 ++ [y141]), zone Z150 wz151] ⟨Z150, wz151, B152, m153, d154, A145, n146, c147, (Sub.trans h131 h155), h157, rfl⟩ X
   ·intro D158 E U w hX J X
    obtain ⟨l133, l134⟩ := t122
    try dsimp only at hX
    obtain ⟨Z123, wz124, A125, n126, c127, A128, n129, c130, h131, h132, rfl⟩ := hX
    replace X : SH r (blk g114 24 [.slice A125 n126 c127] :: blk g116 38 [.slice A128 n129 c130] :: blk g119 22 [.slice A0 n0 c0] :: blk g120 3 [.int .i64 64] :: own (kI .u8) 5 A125 n126 c127 l133 :: own k41 41 A128 n129 c130 l134 :: zone Z123 wz124 :: objP D158 (.deferred (some [])) :: L) w := X
    replace G : segment_Write_rx1 a1 l133 l134 = some y := G
    unfold segment_Write_rx1 at G
    refine hKx121 _ _ ?_
    refine hK117 _ _ ?_
    refine ws fun K159 hK159 => ?_
    refine x_m J rfl fun U J => ?_
    obtain ⟨x160, h161, G⟩ := ltt_ G
    refine x_v (v := .int .u64 x160) J (rv_i h161 (r_convI uu3 uu31 rfl (J.ev rfl))) rfl fun U J => ?_
    refine x_ld' uu38 (X.cell 1 rfl 0 _ rfl) J (fun U J => ?_) rfl
    refine x_len' uu38 (X.rd 5 rfl).2.1 J (fun U J => ?_) rfl
    obtain ⟨x162, h163, G⟩ := ltt_ G
    refine x_v (v := .int .u64 x162) J (rv_i h163 (r_convI uu3 uu31 rfl (J.ev rfl))) rfl fun U J => ?_
    refine x_bsl' (d := (kI .u64)) (e := 31) (ps := #[(0, .int .u64 x160), (1, .int .u64 x162)]) (cells := [.int .u64 x160, .int .u64 x162]) (xs := [x160, x162]) (fun w => by kernel_rfl) rfl ⟨[.int .u64 x160], _, rfl, rfl, ⟨[.int .u64 x162], _, rfl, rfl, rfl⟩⟩ J X (fun g164 U w X J => ?_) rfl
    replace X := SH.nil_own (d := (kI .u8)) (e := 5) X
    obtain ⟨y165, h166, G⟩ := bnd G
    refine x_call' en27 J (F_segment_uints (L := own (kI .u64) 31 (some ⟨g164, 0, none⟩) 2 2 [x160, x162] :: blk g114 24 [.slice A125 n126 c127] :: blk g116 38 [.slice A128 n129 c130] :: blk g119 22 [.slice A0 n0 c0] :: blk g120 3 [.int .i64 64] :: own (kI .u8) 5 A125 n126 c127 l133 :: own k41 41 A128 n129 c130 l134 :: zone Z123 wz124 :: objP D158 (.deferred (some [])) :: L) [] [x160, x162] none 0 0 (some ⟨g164, 0, none⟩) 2 2 h166 (RdL.own 0 rfl (X.dropN 1)) X) (fun v U w hR J => ?_) rfl
    obtain ⟨B167, m168, d169, rfl, X⟩ := hR
    refine x_m J rfl fun U J => ?_
    refine wn (hK159 _ _ ?_)
    refine wp_seq_k fun K170 hK170 => ?_
    refine ws fun K171 hK171 => ?_
    refine x_ld' uu38 (X.cell 3 rfl 0 _ rfl) J (fun U J => ?_) rfl
    refine x_len' uu38 (X.rd 7 rfl).2.1 J (fun U J => ?_) rfl
    refine x_m J rfl fun U J => ?_
    refine wn (hK171 _ _ ?_)
    refine wp_block_k fun Kx172 hKx172 => ?_
    have hb2 : ∀ (l173 : (List Int)), segment_Write_b2 l133 l173 = some y → ∀ (A174 : Option Addr) (n175 : Nat) (c176 : Nat) (U : Act) (w : World), FR 126 [coll D158] U [(8, (pP g114)), (11, .slice A174 n175 c176)] → SH r (blk g114 24 [.slice A125 n126 c127] :: own (kI .u8) 5 A125 n126 c127 l133 :: own (kI .u8) 5 A174 n175 c176 l173 :: zone Z123 wz124 :: objP D158 (.deferred (some [])) :: L) w → Kx172 U w := by
     intro l173 G A174 n175 c176 U w J X
     unfold segment_Write_b2 at G
     refine hKx172 _ _ ?_
     refine hK170 _ _ ?_
     refine ws fun K177 hK177 => ?_
     refine x_ld' uu24 (X.cell 0 rfl 0 _ rfl) J (fun U J => ?_) rfl
     refine x_len' uu24 (X.rd 1 rfl).2.1 J (fun U J => ?_) rfl
     refine x_m J rfl fun U J => ?_
     refine wn (hK177 _ _ ?_)
     refine ws fun K178 hK178 => ?_
     refine x_ld' uu24 (X.cell 0 rfl 0 _ rfl) J (fun U J => ?_) rfl
     refine x_m J rfl fun U J => ?_
     replace X := X.pk 1
     obtain ⟨y179, h180, G⟩ := bnd G
     refine x_call' en30 J (F_page_Lay (L := blk g114 24 [.slice A125 n126 c127] :: own (kI .u8) 5 A174 n175 c176 l173 :: zone Z123 wz124 :: objP D158 (.deferred (some [])) :: L) l133 102 l173 A125 n126 c127 A174 n175 c176 h180 2 rfl (RdL.own 1 rfl (X.dropN 1)) (Imm.sub hG0 h131) X) (fun v U w hR J => ?_) rfl
     obtain ⟨B181, m182, d183, rfl, X⟩ := hR
     refine x_stb' 1 sz24 J X rfl (fun  U w X J => ?_) rfl
     refine wn (hK178 _ _ ?_)
     refine ws fun K184 hK184 => ?_
     refine x_ld' uu24 (X.cell 0 rfl 0 _ rfl) J (fun U J => ?_) rfl
     refine x_m J rfl fun U J => ?_
     obtain ⟨x185, h186, G⟩ := ltt_ G
     refine x_v (v := .int .u8 x185) J (rv_i h186 (r_convI uu3 uu5 rfl (J.ev rfl))) rfl fun U J => ?_
     refine x_m J rfl fun U J => ?_
     obtain ⟨x187, h188, G⟩ := ltt_ G
     refine x_v (v := .int .i64 x187) J (rv_i h188 (r_shr rfl (J.ev rfl) (J.ev rfl) (by decide))) rfl fun U J => ?_
     obtain ⟨x189, h190, G⟩ := ltt_ G
     refine x_v (v := .int .u8 x189) J (rv_i h190 (r_convI uu3 uu5 rfl (J.ev rfl))) rfl fun U J => ?_
     refine x_m J rfl fun U J => ?_
     obtain ⟨x191, h192, G⟩ := ltt_ G
     refine x_v (v := .int .i64 x191) J (rv_i h192 (r_shr rfl (J.ev rfl) (J.ev rfl) (by decide))) rfl fun U J => ?_
     obtain ⟨x193, h194, G⟩ := ltt_ G
     refine x_v (v := .int .u8 x193) J (rv_i h194 (r_convI uu3 uu5 rfl (J.ev rfl))) rfl fun U J => ?_
     refine x_m J rfl fun U J => ?_
     obtain ⟨x195, h196, G⟩ := ltt_ G
     refine x_v (v := .int .i64 x195) J (rv_i h196 (r_shr rfl (J.ev rfl) (J.ev rfl) (by decide))) rfl fun U J => ?_
     obtain ⟨x197, h198, G⟩ := ltt_ G
     refine x_v (v := .int .u8 x197) J (rv_i h198 (r_convI uu3 uu5 rfl (J.ev rfl))) rfl fun U J => ?_
     refine x_bsl' (d := (kI .u8)) (e := 5) (ps := #[(0, .int .u8 x185), (1, .int .u8 x189), (2, .int .u8 x193), (3, .int .u8 x197)]) (cells := [.int .u8 x185, .int .u8 x189, .int .u8 x193, .int .u8 x197]) (xs := [x185, x189, x193, x197]) (fun w => by kernel_rfl) rfl ⟨[.int .u8 x185], _, rfl, rfl, ⟨[.int .u8 x189], _, rfl, rfl, ⟨[.int .u8 x193], _, rfl, rfl, ⟨[.int .u8 x197], _, rfl, rfl, rfl⟩⟩⟩⟩ J X (fun g199 U w X J => ?_) rfl
     replace X := X.pk 2
     obtain ⟨y200, h201, G⟩ := bnd G
     refine x_call' en30 J (F_page_Lay (L := own (kI .u8) 5 (some ⟨g199, 0, none⟩) 4 4 [x185, x189, x193, x197] :: blk g114 24 [.slice B181 m182 d183] :: own (kI .u8) 5 A174 n175 c176 l173 :: zone Z123 wz124 :: objP D158 (.deferred (some [])) :: L) y179 116 [x185, x189, x193, x197] B181 m182 d183 (some ⟨g199, 0, none⟩) 4 4 h201 3 rfl (RdL.own 0 rfl (X.dropN 1)) (Imm.sub hG0 h131) X) (fun v U w hR J => ?_) rfl
     obtain ⟨B202, m203, d204, rfl, X⟩ := hR
     refine x_m J rfl fun U J => ?_
     refine x_m J rfl fun U J => ?_
     refine wn (hK184 _ _ ?_)
     refine wp_ret ?_
     replace X := X.drop 1 |>.drop 1 |>.drop 1 |>.pk 1 |>.pk 1
     cases G
     refine hQD _ _ _ _ _ _ J (X.pk 2) fun U w J X => ?_
     refine lv2 Tryd.results11 J rfl rfl ?_
     exact ⟨Z123, wz124, B202, m203, d204, rfl, h131, X⟩
    obtain ⟨t205, hl205, G⟩ := bnd G
    have hx205_5 : ∀ (l206 : (List Int)), (l206) = t205 → ∀ (A207 : Option Addr) (n208 : Nat) (c205 : Nat) (U : Act) (w : World), FR 126 [coll D158] U [(8, (pP g114)), (11, .slice A207 n208 c205)] → SH r (blk g114 24 [.slice A125 n126 c127] :: own (kI .u8) 5 A125 n126 c127 l133 :: own (kI .u8) 5 A207 n208 c205 l206 :: zone Z123 wz124 :: objP D158 (.deferred (some [])) :: L) w → Kx172 U w := by
     intro l206 ht A207 n208 c205 U w J X
     subst ht
     replace G : segment_Write_x1_5 l133 l206 = some y := G
     unfold segment_Write_x1_5 at G
     exact hb2 l206 G A207 n208 c205 U w (J.sub _ rfl) X
    replace X := X.drop 1 |>.drop 2 |>.drop 2 |>.drop 2 |>.pk 4 |>.pk 4 |>.pk 2 |>.pk 4 |>.pk 4
    refine wp_loop_fn hl205 (fun s U w => ∃ (A209 : Option Addr) (n210 : Nat) (c211 : Nat), FR 126 [coll D158] U [(8, (pP g114)), (11, .slice A209 n210 c211), (73, .slice A128 n129 c130), (74, .int .i64 (l134.length : Int)), (75, .int .i64 s.2)] ∧ SH r (blk g114 24 [.slice A125 n126 c127] :: own (kI .u8) 5 A125 n126 c127 l133 :: own (kI .u8) 5 A209 n210 c211 s.1 :: own k41 41 A128 n129 c130 l134 :: zone Z123 wz124 :: objP D158 (.deferred (some [])) :: L) w) ⟨B167, m168, d169, J.sub _ rfl, X⟩ ?_
    intro N205 s205 o205 G N205_ T205_ U w hLab
    obtain ⟨l212, x213⟩ := s205
    replace G : segment_Write_l1 l134 l212 x213 = some o205 := G
    unfold segment_Write_l1 at G
    try dsimp only at hLab
    obtain ⟨A209, n210, c211, J, X⟩ := hLab
    refine ws fun K214 hK214 => ?_
    refine x_v J (r_ltI rfl (J.ev rfl) (J.ev rfl)) rfl fun U J => ?_
    refine wn (hK214 _ _ ?_)
    refine wp_seq_k fun K215 hK215 => ?_
    refine c_if J rfl (fun hb216 => ?_) fun hb216 => ?_
    ·replace G := ift hb216 G
     refine wp_skip ?_
     refine hK215 _ _ ?_
     refine wp_seq_k fun K217 hK217 => ?_
     refine wp_block_k fun Kx218 hKx218 => ?_
     refine ws fun K219 hK219 => ?_
     obtain ⟨x220, h221, G⟩ := bnd G
     refine x_ia' uu38 sz41 (X.rd 3 rfl) h221 J (fun U J => ?_) rfl
     obtain ⟨cs, hV, hc222⟩ := el (X.rd 3 rfl) h221
     obtain rfl := hV
     refine x_lda' (cs := [.int .i64 x220.f0, .int .i64 x220.f1, .int .u64 x220.f2, .int .u64 x220.f3, .int .i64 x220.f4, .int .i64 x220.f5, str x220.f6, str x220.f7]) uu41 sz41 (fun j u h => by rw [ea_add]; exact hc222 _ _ h) J (fun U J => ?_) rfl
     refine x_alloc' (cs := [.int .i64 0, .int .i64 0, .int .u64 0, .int .u64 0, .int .i64 0, .int .i64 0, str [], str []]) zr41 J X (fun g223 U w X J => ?_) rfl
     refine x_stb' 0 sz41 J X rfl (fun  U w X J => ?_) rfl
     refine wn (hK219 _ _ ?_)
     refine ws fun K224 hK224 => ?_
     refine x_m J rfl fun U J => ?_
     refine x_fab' fa41_0 J (fun U J => ?_) rfl
     refine x_ld' uu3 (X.cell 0 rfl 0 _ rfl) J (fun U J => ?_) rfl
     obtain ⟨x225, h226, G⟩ := ltt_ G
     refine x_v (v := .int .u64 x225) J (rv_i h226 (r_convI uu3 uu31 rfl (J.ev rfl))) rfl fun U J => ?_
     refine x_fab' fa41_1 J (fun U J => ?_) rfl
     refine x_ld' uu3 (X.cell 0 rfl 1 _ rfl) J (fun U J => ?_) rfl
     obtain ⟨x227, h228, G⟩ := ltt_ G
     refine x_v (v := .int .u64 x227) J (rv_i h228 (r_convI uu3 uu31 rfl (J.ev rfl))) rfl fun U J => ?_
     refine x_fab' fa41_2 J (fun U J => ?_) rfl
     refine x_ld' uu31 (X.cell 0 rfl 2 _ rfl) J (fun U J => ?_) rfl
     refine x_fab' fa41_3 J (fun U J => ?_) rfl
     refine x_ld' uu31 (X.cell 0 rfl 3 _ rfl) J (fun U J => ?_) rfl
     refine x_bsl' (d := (kI .u64)) (e := 31) (ps := #[(0, .int .u64 x225), (1, .int .u64 x227), (2, .int .u64 x220.f2), (3, .int .u64 x220.f3)]) (cells := [.int .u64 x225, .int .u64 x227, .int .u64 x220.f2, .int .u64 x220.f3]) (xs := [x225, x227, x220.f2, x220.f3]) (fun w => by kernel_rfl) rfl ⟨[.int .u64 x225], _, rfl, rfl, ⟨[.int .u64 x227], _, rfl, rfl, ⟨[.int .u64 x220.f2], _, rfl, rfl, ⟨[.int .u64 x220.f3], _, rfl, rfl, rfl⟩⟩⟩⟩ J X (fun g229 U w X J => ?_) rfl
     replace X := X.pk 4
     obtain ⟨y230, h231, G⟩ := bnd G
     refine x_call' en27 J (F_segment_uints (L := own (kI .u64) 31 (some ⟨g229, 0, none⟩) 4 4 [x225, x227, x220.f2, x220.f3] :: blk g223 41 [.int .i64 x220.f0, .int .i64 x220.f1, .int .u64 x220.f2, .int .u64 x220.f3, .int .i64 x220.f4, .int .i64 x220.f5, str x220.f6, str x220.f7] :: blk g114 24 [.slice A125 n126 c127] :: own (kI .u8) 5 A125 n126 c127 l133 :: own k41 41 A128 n129 c130 l134 :: zone Z123 wz124 :: objP D158 (.deferred (some [])) :: L) l212 [x225, x227, x220.f2, x220.f3] A209 n210 c211 (some ⟨g229, 0, none⟩) 4 4 h231 (RdL.own 0 rfl (X.dropN 1)) X) (fun v U w hR J => ?_) rfl
     obtain ⟨B232, m233, d234, rfl, X⟩ := hR
     refine x_m J rfl fun U J => ?_
     refine wn (hK224 _ _ ?_)
     refine wp_seq_k fun K235 hK235 => ?_
     refine wp_draw [0, 0, 2, 7, 0, 16, 63, 127] [3, 6] rfl J X (by kernel_rfl) (by kernel_rfl) (by kernel_rfl) (by kernel_rfl) fun w X => ?_
     refine ⟨[(0, .slice B232 m233 d234), (1, .pointer (some ⟨g223, 4, none⟩)), (2, .int .i64 x220.f4), (4, .pointer (some ⟨g223, 5, none⟩)), (5, .int .i64 x220.f5)], ?_⟩
     refine dF [0, 1, 2, 4, 5] [3] (by kernel_rfl) ⟨pm rfl, pt [(13, (pP g223))] rfl (fun U J => y_fab fa41_4 J rfl rfl), pt [(93, .pointer (some ⟨g223, 4, none⟩))] rfl (fun U J => y_ld uu2 (X.cell 2 rfl 4 _ rfl) J rfl rfl rfl), pt [(13, (pP g223))] rfl (fun U J => y_fab fa41_5 J rfl rfl), pt [(96, .pointer (some ⟨g223, 5, none⟩))] rfl (fun U J => y_ld uu2 (X.cell 2 rfl 5 _ rfl) J rfl rfl rfl), trivial⟩ ⟨et [(92, .slice B232 m233 d234), (94, .int .i64 x220.f4)] rfl (fun U J K hK => ?_), trivial⟩
     obtain ⟨y236, h237, G⟩ := bnd G
     refine z_call' en28 J (F_column_Int (L := own (kI .u64) 31 (some ⟨g229, 0, none⟩) 4 4 [x225, x227, x220.f2, x220.f3] :: blk g223 41 [.int .i64 x220.f0, .int .i64 x220.f1, .int .u64 x220.f2, .int .u64 x220.f3, .int .i64 x220.f4, .int .i64 x220.f5, str x220.f6, str x220.f7] :: blk g114 24 [.slice A125 n126 c127] :: own (kI .u8) 5 A125 n126 c127 l133 :: own k41 41 A128 n129 c130 l134 :: zone Z123 wz124 :: objP D158 (.deferred (some [])) :: L) y230 x220.f4 B232 m233 d234 h237 X) (fun v w hR => ?_) rfl
     obtain ⟨B238, m239, d240, rfl, X⟩ := hR
     refine hK _ [] _ rfl ?_
     refine dF [4, 5] [6] (by kernel_rfl) ⟨pt [(13, (pP g223))] rfl (fun U J => y_fab fa41_5 J rfl rfl), pt [(96, .pointer (some ⟨g223, 5, none⟩))] rfl (fun U J => y_ld uu2 (X.cell 2 rfl 5 _ rfl) J rfl rfl rfl), trivial⟩ ⟨et [(95, .slice B238 m239 d240), (97, .int .i64 x220.f5)] rfl (fun U J K hK => ?_), trivial⟩
     obtain ⟨y241, h242, G⟩ := bnd G
     refine z_call' en28 J (F_column_Int (L := own (kI .u64) 31 (some ⟨g229, 0, none⟩) 4 4 [x225, x227, x220.f2, x220.f3] :: blk g223 41 [.int .i64 x220.f0, .int .i64 x220.f1, .int .u64 x220.f2, .int .u64 x220.f3, .int .i64 x220.f4, .int .i64 x220.f5, str x220.f6, str x220.f7] :: blk g114 24 [.slice A125 n126 c127] :: own (kI .u8) 5 A125 n126 c127 l133 :: own k41 41 A128 n129 c130 l134 :: zone Z123 wz124 :: objP D158 (.deferred (some [])) :: L) y236 x220.f5 B238 m239 d240 h242 X) (fun v w hR => ?_) rfl
     obtain ⟨B243, m244, d245, rfl, X⟩ := hR
     refine hK _ [(7, .slice B243 m244 d245)] _ rfl ?_
     refine dEnd [7] (by kernel_rfl) ⟨pm rfl, trivial⟩ ⟨by kernel_rfl, by kernel_rfl⟩ [(8, (pP g114)), (11, .slice B243 m244 d245), (13, (pP g223)), (73, .slice A128 n129 c130), (74, .int .i64 (l134.length : Int)), (75, .int .i64 x213)] rfl (fun U J => ?_)
     refine hK235 _ _ ?_
     refine wp_draw [0, 0, 2, 7, 0, 16, 63, 127] [3, 6] rfl J X (by kernel_rfl) (by kernel_rfl) (by kernel_rfl) (by kernel_rfl) fun w X => ?_
     refine ⟨[(0, .slice B243 m244 d245), (1, .pointer (some ⟨g223, 6, none⟩)), (2, str x220.f6), (4, .pointer (some ⟨g223, 7, none⟩)), (5, str x220.f7)], ?_⟩
     refine dF [0, 1, 2, 4, 5] [3] (by kernel_rfl) ⟨pm rfl, pt [(13, (pP g223))] rfl (fun U J => y_fab fa41_6 J rfl rfl), pt [(100, .pointer (some ⟨g223, 6, none⟩))] rfl (fun U J => y_ld uu9 (X.cell 2 rfl 6 _ rfl) J rfl rfl rfl), pt [(13, (pP g223))] rfl (fun U J => y_fab fa41_7 J rfl rfl), pt [(103, .pointer (some ⟨g223, 7, none⟩))] rfl (fun U J => y_ld uu9 (X.cell 2 rfl 7 _ rfl) J rfl rfl rfl), trivial⟩ ⟨et [(99, .slice B243 m244 d245), (101, str x220.f6)] rfl (fun U J K hK => ?_), trivial⟩
     obtain ⟨y246, h247, G⟩ := bnd G
     refine z_call' en29 J (F_column_Text (L := own (kI .u64) 31 (some ⟨g229, 0, none⟩) 4 4 [x225, x227, x220.f2, x220.f3] :: blk g223 41 [.int .i64 x220.f0, .int .i64 x220.f1, .int .u64 x220.f2, .int .u64 x220.f3, .int .i64 x220.f4, .int .i64 x220.f5, str x220.f6, str x220.f7] :: blk g114 24 [.slice A125 n126 c127] :: own (kI .u8) 5 A125 n126 c127 l133 :: own k41 41 A128 n129 c130 l134 :: zone Z123 wz124 :: objP D158 (.deferred (some [])) :: L) y241 x220.f6 B243 m244 d245 h247 X) (fun v w hR => ?_) rfl
     obtain ⟨B248, m249, d250, rfl, X⟩ := hR
     refine hK _ [] _ rfl ?_
     refine dF [4, 5] [6] (by kernel_rfl) ⟨pt [(13, (pP g223))] rfl (fun U J => y_fab fa41_7 J rfl rfl), pt [(103, .pointer (some ⟨g223, 7, none⟩))] rfl (fun U J => y_ld uu9 (X.cell 2 rfl 7 _ rfl) J rfl rfl rfl), trivial⟩ ⟨et [(102, .slice B248 m249 d250), (104, str x220.f7)] rfl (fun U J K hK => ?_), trivial⟩
     obtain ⟨y251, h252, G⟩ := bnd G
     refine z_call' en29 J (F_column_Text (L := own (kI .u64) 31 (some ⟨g229, 0, none⟩) 4 4 [x225, x227, x220.f2, x220.f3] :: blk g223 41 [.int .i64 x220.f0, .int .i64 x220.f1, .int .u64 x220.f2, .int .u64 x220.f3, .int .i64 x220.f4, .int .i64 x220.f5, str x220.f6, str x220.f7] :: blk g114 24 [.slice A125 n126 c127] :: own (kI .u8) 5 A125 n126 c127 l133 :: own k41 41 A128 n129 c130 l134 :: zone Z123 wz124 :: objP D158 (.deferred (some [])) :: L) y246 x220.f7 B248 m249 d250 h252 X) (fun v w hR => ?_) rfl
     obtain ⟨B253, m254, d255, rfl, X⟩ := hR
     refine hK _ [(7, .slice B253 m254 d255)] _ rfl ?_
     refine dEnd [7] (by kernel_rfl) ⟨pm rfl, trivial⟩ ⟨by kernel_rfl, by kernel_rfl⟩ [(8, (pP g114)), (11, .slice B253 m254 d255), (73, .slice A128 n129 c130), (74, .int .i64 (l134.length : Int)), (75, .int .i64 x213)] rfl (fun U J => ?_)
     refine hKx218 _ _ ?_
     refine hK217 _ _ ?_
     refine wp_reg ?_
     obtain ⟨x256, h257, G⟩ := ltt_ G
     refine x_v (v := .int .i64 x256) J (rv_i h257 (r_add rfl (J.ev rfl) (J.ev rfl))) rfl fun U J => ?_
     refine x_m J rfl fun U J => ?_
     refine wpList_nil ?_
     replace X := X.drop 1 |>.drop 1 |>.pk 4 |>.pk 4 |>.pk 2 |>.pk 4 |>.pk 4
     cases G
     exact ⟨_, N205_ _ rfl, B253, m254, d255, J.sub _ rfl, X⟩
    replace G := iff' hb216 G
    refine wp_exit ?_
    replace X := X.drop 3
    cases G
    exact hx205_5 l212 (T205_ _ rfl) A209 n210 c211 U w (J.sub _ rfl) X
  obtain ⟨t258, hl258, G⟩ := bnd G
  have hR258 := G
  have hx258_1 : (.inl ()) = t258 → ∀ (U : Act) (w : World), FR 126 [] U [(0, .slice A0 n0 c0), (1, .int .i64 a1)] → SH r (zone Z wz :: L) w → Kx112 U w := by
   intro ht U w J X
   subst ht
   replace G : segment_Write_x2_1 a0 a1 = some y := G
   unfold segment_Write_x2_1 at G
   exact hb1 G U w (J.sub _ rfl) X
  refine wp_loop_fn hl258 (fun s U w => FR 126 [] U [(0, .slice A0 n0 c0), (1, .int .i64 a1), (31, .slice A0 n0 c0), (32, .int .i64 (a0.length : Int)), (33, .int .i64 s)] ∧ SH r (zone Z wz :: L) w) ⟨J.sub _ rfl, X⟩ ?_
  intro N258 s258 o258 G N258_ T258_ U w hLab
  obtain ⟨x259, rfl⟩ : ∃ q, q = s258 := ⟨_, rfl⟩
  replace G : segment_Write_l2 a0 a1 x259 = some o258 := G
  unfold segment_Write_l2 at G
  try dsimp only at hLab
  obtain ⟨J, X⟩ := hLab
  refine ws fun K260 hK260 => ?_
  refine x_v J (r_ltI rfl (J.ev rfl) (J.ev rfl)) rfl fun U J => ?_
  refine wn (hK260 _ _ ?_)
  refine wp_seq_k fun K261 hK261 => ?_
  refine c_if J rfl (fun hb262 => ?_) fun hb262 => ?_
  ·replace G := ift hb262 G
   refine wp_skip ?_
   refine hK261 _ _ ?_
   refine wp_seq_k fun K263 hK263 => ?_
   refine wp_block_k fun Kx264 hKx264 => ?_
   refine ws fun K265 hK265 => ?_
   refine x_m J rfl fun U J => ?_
   obtain ⟨x266, h267, G⟩ := bnd G
   refine x_ia' uu22 sz44 (X.imm 0 ha0 rfl) h267 J (fun U J => ?_) rfl
   obtain ⟨cs, hV, hc268⟩ := el (X.imm 0 ha0 rfl) h267
   obtain rfl := hV
   refine x_lda' (cs := [.int .u64 x266.f0, .int .i64 x266.f1, .int .i64 x266.f2, str x266.f3, .float .f64 x266.f4]) uu44 sz44 (fun j u h => by rw [ea_add]; exact hc268 _ _ h) J (fun U J => ?_) rfl
   refine x_alloc' (cs := [.int .u64 0, .int .i64 0, .int .i64 0, str [], .float .f64 0]) zr44 J X (fun g269 U w X J => ?_) rfl
   refine x_m J rfl fun U J => ?_
   refine x_stb' 0 sz44 J X rfl (fun  U w X J => ?_) rfl
   refine wn (hK265 _ _ ?_)
   refine wp_seq_k fun K270 hK270 => ?_
   refine ws fun K271 hK271 => ?_
   refine x_lda' (ad := ⟨g269, 0, none⟩) (cs := [.int .u64 x266.f0, .int .i64 x266.f1, .int .i64 x266.f2, str x266.f3, .float .f64 x266.f4]) uu44 sz44 (fun j u h => by rw [add_mk, Nat.zero_add]; exact X.cell 0 rfl j u h) J (fun U J => ?_) rfl
   refine x_m J rfl fun U J => ?_
   obtain ⟨y272, h273, G⟩ := bnd G
   refine x_call' en23 J (F_event_Form (L := blk g269 44 [.int .u64 x266.f0, .int .i64 x266.f1, .int .i64 x266.f2, str x266.f3, .float .f64 x266.f4] :: zone Z wz :: L) x266 a1 h273 X) (fun v U w hR J => ?_) rfl
   obtain ⟨rfl, X⟩ := hR
   refine x_v J (r_not rfl (J.ev rfl)) rfl fun U J => ?_
   refine wn (hK271 _ _ ?_)
   refine c_if J rfl (fun hb274 => ?_) fun hb274 => ?_
   ·replace G := ift hb274 G
    refine ws fun K275 hK275 => ?_
    refine x_m J rfl fun U J => ?_
    refine x_m J rfl fun U J => ?_
    refine wn (hK275 _ _ ?_)
    refine wp_ret ?_
    replace X := SH.nil_own (d := (kI .u8)) (e := 5) X
    replace X := X.drop 1 |>.pk 1 |>.pk 1
    cases G
    have ht := T258_ _ rfl
    subst ht
    replace G := hR258
    replace G : some ([], 3) = some y := G
    cases G
    refine hQ _ _ ?_
    refine lv2 Tryd.results11 J rfl rfl ?_
    exact ⟨Z, wz, none, 0, 0, rfl, (Sub.refl _ _), X⟩
   replace G := iff' hb274 G
   refine wp_skip ?_
   refine hK270 _ _ ?_
   refine wp_seq_k fun K276 hK276 => ?_
   refine wp_draw [0, 1, 0, 4, 12, 28, 0, 64, 252, 511] [] rfl J X (by kernel_rfl) (by kernel_rfl) (by kernel_rfl) (by kernel_rfl) fun w X => ?_
   obtain ⟨x277, h278, G⟩ := bnd G
   obtain ⟨cs, hV, hc279⟩ := el (X.imm 1 ha0 rfl) h278
   obtain rfl := hV
   obtain ⟨x280, h281, G⟩ := ltt_ G
   obtain ⟨x282, h283, G⟩ := ltt_ G
   refine ⟨[(0, (pP g269)), (1, .int .u64 x266.f0), (2, .slice A0 n0 c0), (3, .pointer (some (ea A0 ((0 : Int).toNat * 5)))), (4, .pointer (some (ea A0 ((0 : Int).toNat * 5)))), (5, .int .u64 x277.f0), (6, .int .i64 x259), (7, .int .u64 x280), (8, .int .u64 x282), (9, .bool (x266.f0 != x282))], ?_⟩
   refine dEnd [0, 1, 2, 3, 4, 5, 6, 7, 8, 9] (by kernel_rfl) ⟨pt [(7, (pP g269))] rfl (fun U J => y_fab fa44_0 J rfl rfl), pt [(42, (pP g269))] rfl (fun U J => y_ld uu31 (X.cell 0 rfl 0 _ rfl) J rfl rfl rfl), pm rfl, pt [(44, .slice A0 n0 c0)] rfl (fun U J => y_ia uu22 sz44 (X.imm 1 ha0 rfl) h278 J rfl rfl rfl), pt [(45, .pointer (some (ea A0 ((0 : Int).toNat * 5))))] rfl (fun U J => y_fae (m := (0 : Int).toNat * 5) fa44_0 J rfl rfl), pt [(46, .pointer (some (ea A0 ((0 : Int).toNat * 5))))] rfl (fun U J => y_ld uu31 (hc279 0 _ rfl) J rfl rfl rfl), pm rfl, pt [(48, .int .i64 x259)] rfl (fun U J => (rv_i h281 (r_convI uu3 uu31 rfl (J.ev rfl)) : RunV _ _ _ _ (.int .u64 x280))), pt [(47, .int .u64 x277.f0), (49, .int .u64 x280)] rfl (fun U J => (rv_i h283 (r_add rfl (J.ev rfl) (J.ev rfl)) : RunV _ _ _ _ (.int .u64 x282))), pt [(43, .int .u64 x266.f0), (50, .int .u64 x282)] rfl (fun U J => r_neI rfl (J.ev rfl) (J.ev rfl)), trivial⟩ ⟨by kernel_rfl, by kernel_rfl⟩ [(0, .slice A0 n0 c0), (1, .int .i64 a1), (31, .slice A0 n0 c0), (32, .int .i64 (a0.length : Int)), (33, .int .i64 x259), (51, .bool (x266.f0 != x282))] rfl (fun U J => ?_)
   refine hK276 _ _ ?_
   refine c_if J rfl (fun hb284 => ?_) fun hb284 => ?_
   ·replace G := ift hb284 G
    refine ws fun K285 hK285 => ?_
    refine x_m J rfl fun U J => ?_
    refine x_m J rfl fun U J => ?_
    refine wn (hK285 _ _ ?_)
    refine wp_ret ?_
    replace X := SH.nil_own (d := (kI .u8)) (e := 5) X
    replace X := X.drop 1 |>.pk 1 |>.pk 1
    cases G
    have ht := T258_ _ rfl
    subst ht
    replace G := hR258
    replace G : some ([], 8) = some y := G
    cases G
    refine hQ _ _ ?_
    refine lv2 Tryd.results11 J rfl rfl ?_
    exact ⟨Z, wz, none, 0, 0, rfl, (Sub.refl _ _), X⟩
   replace G := iff' hb284 G
   refine wp_skip ?_
   refine hKx264 _ _ ?_
   refine hK263 _ _ ?_
   refine wp_reg ?_
   obtain ⟨x286, h287, G⟩ := ltt_ G
   refine x_v (v := .int .i64 x286) J (rv_i h287 (r_add rfl (J.ev rfl) (J.ev rfl))) rfl fun U J => ?_
   refine x_m J rfl fun U J => ?_
   refine wpList_nil ?_
   replace X := X.drop 0
   cases G
   exact ⟨_, N258_ _ rfl, J.sub _ rfl, X⟩
  replace G := iff' hb262 G
  refine wp_exit ?_
  cases G
  exact hx258_1 (T258_ _ rfl) U w (J.sub _ rfl) X
 refine wp_reg ?_
 refine x_m J rfl fun U J => ?_
 refine x_len' uu22 (X.imm 0 ha0 rfl).2.1 J (fun U J => ?_) rfl
 refine x_v J (r_eqI rfl (J.ev rfl) (J.ev rfl)) rfl fun U J => ?_
 refine x_m J rfl fun U J => ?_
 refine bcase (b := (a0.length : Int) == 0) (fun hb288 => ?_) fun hb288 => ?_
 ·replace G := ift hb288 G
  refine xO 2 hb288 J rfl fun U J => ?_
  refine x_pickt' hb288 J (fun U J => ?_) rfl
  refine x_m J rfl fun U J => ?_
  refine xO 2 rfl J rfl fun U J => ?_
  refine x_pickt' rfl J (fun U J => ?_) rfl
  refine x_m J rfl fun U J => ?_
  refine wpList_nil ?_
  exact hj1 true G U w (J.sub _ rfl) X
 replace G := iff' hb288 G
 refine x_on' hb288 J ?_ rfl
 refine x_m J rfl fun U J => ?_
 refine x_on' hb288 J ?_ rfl
 refine x_v J (r_ltI rfl (J.ev rfl) (J.ev rfl)) rfl fun U J => ?_
 refine x_pickf' hb288 J (fun U J => ?_) rfl
 refine x_m J rfl fun U J => ?_
 refine bcase (b := decide (a1 < 1)) (fun hb289 => ?_) fun hb289 => ?_
 ·replace G := ift hb289 G
  refine xO 2 hb289 J rfl fun U J => ?_
  refine x_pickt' hb289 J (fun U J => ?_) rfl
  refine x_m J rfl fun U J => ?_
  refine wpList_nil ?_
  exact hj1 true G U w (J.sub _ rfl) X
 replace G := iff' hb289 G
 refine x_on' hb289 J ?_ rfl
 refine x_m J rfl fun U J => ?_
 refine x_on' hb289 J ?_ rfl
 refine x_v J (r_gtI rfl (J.ev rfl) (J.ev rfl)) rfl fun U J => ?_
 refine x_pickf' hb289 J (fun U J => ?_) rfl
 refine x_m J rfl fun U J => ?_
 refine wpList_nil ?_
 exact hj1 (decide (8 < a1)) G U w (J.sub _ rfl) X
noncomputable section
set_option linter.unusedSimpArgs false
def segment_Segment_foot_b1 (a0 : S83) (x123 : Int) (l4801 : (List S41)) (l4805 : (List Int)) : Option ((S83 × S106) ⊕ (S83 × S106)) :=
  some (.inl ((⟨a0.f0, x123, l4801⟩ : S83), (⟨l4805⟩ : S106)))
def segment_Segment_foot_x1_0 (a0 : S83) (x123 : Int) (l7904 : (List S41)) (l7908 : (List Int)) : Option ((S83 × S106) ⊕ (S83 × S106)) :=
  segment_Segment_foot_b1 a0 x123 l7904 l7908
def segment_Segment_foot_j4 (l6352 : (List S41)) (x6361 : Int) (x9136 : Int) (x9137 : Int) (y9139 : (Int × S106)) (y9149 : (Int × S106)) (y9160 : (Int × S106)) (y9170 : (Int × S106)) (y9181 : ((List UInt8) × S106)) (y9191 : ((List UInt8) × S106)) (l9287 : (List Int)) : Option (((List S41) × (List Int) × Int) ⊕ (((List S41) × (List Int)) ⊕ ((S83 × S106) ⊕ (S83 × S106)))) :=
  chk (l6352.length + [(⟨x9136, x9137, y9139.1, y9149.1, y9160.1, y9170.1, y9181.1, y9191.1⟩ : S41)].length ≤ 140737488355328 / 80) (ltt (IntKind.u64.wrap (x6361 + 1)) fun x9297 => (some (.inl (l6352 ++ [(⟨x9136, x9137, y9139.1, y9149.1, y9160.1, y9170.1, y9181.1, y9191.1⟩ : S41)], l9287, x9297))))
def segment_Segment_foot_j3 (a0 : S83) (x123 : Int) (l6352 : (List S41)) (x6361 : Int) (x9136 : Int) (x9137 : Int) (y9139 : (Int × S106)) (y9149 : (Int × S106)) (y9160 : (Int × S106)) (y9170 : (Int × S106)) (y9181 : ((List UInt8) × S106)) (y9191 : ((List UInt8) × S106)) (l9240 : (List Int)) : Option (((List S41) × (List Int) × Int) ⊕ (((List S41) × (List Int)) ⊕ ((S83 × S106) ⊕ (S83 × S106)))) :=
  if (decide (0 < x6361)) = true then (ltt (IntKind.u64.wrap (x6361 - 1)) fun x9301 => ((at_ l6352 x9301).bind fun x9303 => (ltt (IntKind.u64.wrap (x9303.f3 + 1)) fun x9306 => (if (y9139.1 == x9306) = true then ((column_Reader_Check (⟨l9240⟩ : S106) (decide (x9303.f1 < x9137))).bind fun y9310 => (sum_ y9310 (fun y9310 => (segment_Segment_foot_j4 l6352 x6361 x9136 x9137 y9139 y9149 y9160 y9170 y9181 y9191 y9310.f0)) (fun y9310 => (some (.inr (.inr (.inr ((⟨a0.f0, x123, l6352⟩ : S83), y9310)))))))) else ((column_Reader_Check (⟨l9240⟩ : S106) false).bind fun y9320 => (sum_ y9320 (fun y9320 => (segment_Segment_foot_j4 l6352 x6361 x9136 x9137 y9139 y9149 y9160 y9170 y9181 y9191 y9320.f0)) (fun y9320 => (some (.inr (.inr (.inr ((⟨a0.f0, x123, l6352⟩ : S83), y9320)))))))))))) else ((column_Reader_Check (⟨l9240⟩ : S106) (x9137 == 0)).bind fun y9330 => (sum_ y9330 (fun y9330 => (segment_Segment_foot_j4 l6352 x6361 x9136 x9137 y9139 y9149 y9160 y9170 y9181 y9191 y9330.f0)) (fun y9330 => (some (.inr (.inr (.inr ((⟨a0.f0, x123, l6352⟩ : S83), y9330))))))))
def segment_Segment_foot_j2 (a0 : S83) (x123 : Int) (l6352 : (List S41)) (x6361 : Int) (l9130 : (List Int)) (x9136 : Int) (x9137 : Int) : Option (((List S41) × (List Int) × Int) ⊕ (((List S41) × (List Int)) ⊕ ((S83 × S106) ⊕ (S83 × S106)))) :=
  (column_Reader_Uint (⟨l9130⟩ : S106) 1099511627776).bind fun y9139 => (sum_ y9139 (fun y9139 => ((column_Reader_Uint y9139.2 1099511627776).bind fun y9149 => (sum_ y9149 (fun y9149 => ((column_Reader_Int y9149.2).bind fun y9160 => (sum_ y9160 (fun y9160 => ((column_Reader_Int y9160.2).bind fun y9170 => (sum_ y9170 (fun y9170 => ((column_Reader_Text y9170.2 32).bind fun y9181 => (sum_ y9181 (fun y9181 => ((column_Reader_Text y9181.2 32).bind fun y9191 => (sum_ y9191 (fun y9191 => (if (decide (0 < x9136)) = true then (ltt (IntKind.u64.wrap (y9149.1 - y9139.1)) fun x9341 => (ltt (IntKind.i64.wrap (x9136 - 1)) fun x9343 => (ltt (IntKind.u64.wrap x9343) fun x9345 => (if (x9341 == x9345) = true then ((column_Reader_Check y9191.2 (decide (y9139.1 ≤ y9149.1))).bind fun y9348 => (sum_ y9348 (fun y9348 => (segment_Segment_foot_j3 a0 x123 l6352 x6361 x9136 x9137 y9139 y9149 y9160 y9170 y9181 y9191 y9348.f0)) (fun y9348 => (some (.inr (.inr (.inr ((⟨a0.f0, x123, l6352⟩ : S83), y9348)))))))) else ((column_Reader_Check y9191.2 false).bind fun y9358 => (sum_ y9358 (fun y9358 => (segment_Segment_foot_j3 a0 x123 l6352 x6361 x9136 x9137 y9139 y9149 y9160 y9170 y9181 y9191 y9358.f0)) (fun y9358 => (some (.inr (.inr (.inr ((⟨a0.f0, x123, l6352⟩ : S83), y9358)))))))))))) else ((column_Reader_Check y9191.2 false).bind fun y9368 => (sum_ y9368 (fun y9368 => (segment_Segment_foot_j3 a0 x123 l6352 x6361 x9136 x9137 y9139 y9149 y9160 y9170 y9181 y9191 y9368.f0)) (fun y9368 => (some (.inr (.inr (.inr ((⟨a0.f0, x123, l6352⟩ : S83), y9368)))))))))) (fun y9191 => (some (.inr (.inr (.inr ((⟨a0.f0, x123, l6352⟩ : S83), y9191))))))))) (fun y9181 => (some (.inr (.inr (.inr ((⟨a0.f0, x123, l6352⟩ : S83), y9181))))))))) (fun y9170 => (some (.inr (.inr (.inr ((⟨a0.f0, x123, l6352⟩ : S83), y9170))))))))) (fun y9160 => (some (.inr (.inr (.inr ((⟨a0.f0, x123, l6352⟩ : S83), y9160))))))))) (fun y9149 => (some (.inr (.inr (.inr ((⟨a0.f0, x123, l6352⟩ : S83), y9149))))))))) (fun y9139 => (some (.inr (.inr (.inr ((⟨a0.f0, x123, l6352⟩ : S83), y9139)))))))
def segment_Segment_foot_l1 (a0 : S83) (x123 : Int) (y126 : (Int × S106)) (l6352 : (List S41)) (l6356 : (List Int)) (x6361 : Int) : Option (((List S41) × (List Int) × Int) ⊕ (((List S41) × (List Int)) ⊕ ((S83 × S106) ⊕ (S83 × S106)))) :=
  if (decide (x6361 < y126.1)) = true then (ltt (IntKind.u64.wrap (a0.f0.length : Int)) fun x9378 => ((column_Reader_Uint (⟨l6356⟩ : S106) 64).bind fun y9380 => (sum_ y9380 (fun y9380 => (ltt (IntKind.i64.wrap y9380.1) fun x9390 => ((column_Reader_Uint y9380.2 x9378).bind fun y9392 => (sum_ y9392 (fun y9392 => (ltt (IntKind.i64.wrap y9392.1) fun x9402 => (segment_Segment_foot_j2 a0 x123 l6352 x6361 y9392.2.f0 x9390 x9402))) (fun y9392 => (some (.inr (.inr (.inr ((⟨a0.f0, x123, l6352⟩ : S83), y9392)))))))))) (fun y9380 => (some (.inr (.inr (.inr ((⟨a0.f0, x123, l6352⟩ : S83), y9380))))))))) else (some (.inr (.inl (l6352, l6356))))
def segment_Segment_foot_j1 (a0 : S83) (x123 : Int) (y126 : (Int × S106)) (l158 : (List Int)) : Option ((S83 × S106) ⊕ (S83 × S106)) :=
  (loop (fun s => segment_Segment_foot_l1 a0 x123 y126 s.1 s.2.1 s.2.2) (a0.f2, l158, 0)).bind fun t => match t with | (.inl t) => segment_Segment_foot_x1_0 a0 x123 t.1 t.2 | (.inr t) => some t
def segment_Segment_foot (a0 : S83) (a1 : S106) : Option ((S83 × S106) ⊕ (S83 × S106)) :=
  (column_Reader_Uint a1 8).bind fun y113 => (sum_ y113 (fun y113 => (ltt (IntKind.i64.wrap y113.1) fun x123 => ((column_Reader_Uint y113.2 1024).bind fun y126 => (sum_ y126 (fun y126 => (if (decide (0 < x123)) = true then ((column_Reader_Check y126.2 (decide (0 < y126.1))).bind fun y9444 => (sum_ y9444 (fun y9444 => (segment_Segment_foot_j1 a0 x123 y126 y9444.f0)) (fun y9444 => (some (.inr ((⟨a0.f0, x123, a0.f2⟩ : S83), y9444)))))) else ((column_Reader_Check y126.2 false).bind fun y9454 => (sum_ y9454 (fun y9454 => (segment_Segment_foot_j1 a0 x123 y126 y9454.f0)) (fun y9454 => (some (.inr ((⟨a0.f0, x123, a0.f2⟩ : S83), y9454)))))))) (fun y126 => (some (.inr ((⟨a0.f0, x123, a0.f2⟩ : S83), y126)))))))) (fun y113 => (some (.inr (a0, y113)))))
def Try_segment_Segment_foot (a0 : (List Int)) (a60 : S83) : Option (Bool × S83) :=
  (segment_Segment_foot a60 (⟨a0⟩ : S106)).bind fun y => (sum_ y (fun y => some ((((y.2.f0.length : Int) == 0), y.1))) (fun y => some ((false, y.1))))
def segment_Open_j2 (l217 : (List Int)) (x222 : Int) (l223 : (List S41)) (b227 : Bool) : Option ((Option S83) × Int) :=
  if b227 = true then (some (none, 3)) else (some (some (⟨l217, x222, l223⟩ : S83), 0))
def segment_Open_j1 (a0 : (List Int)) (y109 : (Int × (List Int) × Int × Int)) (b122 : Bool) : Option ((Option S83) × Int) :=
  if b122 = true then (some (none, 3)) else ((at_ y109.2.1 0).bind fun x126 => (ltt (IntKind.i64.wrap x126) fun x129 => ((at_ y109.2.1 1).bind fun x131 => (ltt (IntKind.i64.wrap x131) fun x134 => (ltt (ishl .i64 x134 8) fun x136 => (ltt (ior .i64 x129 x136) fun x138 => ((at_ y109.2.1 2).bind fun x140 => (ltt (IntKind.i64.wrap x140) fun x143 => (ltt (ishl .i64 x143 16) fun x145 => (ltt (ior .i64 x138 x145) fun x147 => ((at_ y109.2.1 3).bind fun x149 => (ltt (IntKind.i64.wrap x149) fun x152 => (ltt (ishl .i64 x152 24) fun x154 => (ltt (ior .i64 x147 x154) fun x156 => (ltt (IntKind.i64.wrap ((a0.length : Int) - 13)) fun x160 => (if (decide (x160 < x156)) = true then (some (none, 3)) else ((page_Read a0 x156).bind fun y165 => (if (y165.2.2.2 != 0) = true then (some (none, y165.2.2.2)) else ((cut_ a0 0 x156).bind fun l175 => ((slices_Clone_byte_byte l175).bind fun y182 => (if (y165.1 != 102) = true then (segment_Open_j2 y182 0 [] true) else (if (y165.2.2.1 != x160) = true then (segment_Open_j2 y182 0 [] true) else ((Try_segment_Segment_foot y165.2.1 (⟨y182, 0, []⟩ : S83)).bind fun y240 => (segment_Open_j2 y240.2.f0 y240.2.f1 y240.2.f2 (!y240.1)))))))))))))))))))))))))
def segment_Open (a0 : (List Int)) : Option ((Option S83) × Int) :=
  if (decide ((a0.length : Int) < 13)) = true then (some (none, 3)) else (ltt (IntKind.i64.wrap ((a0.length : Int) - 13)) fun x107 => ((page_Read a0 x107).bind fun y109 => (if (y109.2.2.2 != 0) = true then (some (none, y109.2.2.2)) else (if (y109.1 != 116) = true then (segment_Open_j1 a0 y109 true) else (if ((y109.2.1.length : Int) != 4) = true then (segment_Open_j1 a0 y109 true) else (segment_Open_j1 a0 y109 (y109.2.2.1 != (a0.length : Int))))))))
def slices_Clone_segment_Chunk_segment_Chunk (a0 : (List S41)) : Option ((List S41)) :=
  nilsplit (a0).isEmpty (some []) (chk (([] : List S41).length + a0.length ≤ 140737488355328 / 80) (some a0))
def segment_Segment_Chunks (a0 : (Option S83)) : Option ((List S41)) :=
  match a0 with | none => (some []) | some x101 => ((slices_Clone_segment_Chunk_segment_Chunk x101.f2).bind fun y118 => (some y118))
end
end Go.Proofs.YteodeedejjcmgaaDoor.M
