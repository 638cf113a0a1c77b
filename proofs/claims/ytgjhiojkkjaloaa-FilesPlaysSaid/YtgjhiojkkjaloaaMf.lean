/- The calls come to the plain functions. -/
import Derived.Test.YtgjhiojkkjaloaaMc
import Derived.Test.YtgjhiojkkjaloaaEp
import Derived.Test.YtgjhiojkkjaloaaDf
namespace Go.Proofs.Ytgjhiojkkjaloaa.M
open Go Go.RowKit Go.Proofs.Ytgjhiojkkjaloaa.E
set_option linter.unusedVariables false
set_option linter.unusedSimpArgs false

set_option maxHeartbeats 4000000 in
theorem F_law05_awake {r : World} {L : List HP} {w : World} {y : (Bool)} (hF : law05_awake = some y) (hS : SH r (L) w) :
    Ret Try.prog 10 #[] w fun v w' => v = .bool y ∧ SH r (L) w' := by
  refine enter Try.func10 rfl Try.ntmps10 [] rfl (by simp) ?_
  intro ac hA Qf hQ hQn
  unfold law05_awake at hF
  refine wp_seq_k fun K101 hK101 => ?_
  refine wp_reg ?_
  refine x_assign hA (fun ac hA => ?_) rfl rfl rfl rfl rfl
  refine wpList_nil ?_
  refine hK101 _ _ ?_
  refine wp_seq_k fun K102 hK102 => ?_
  refine wp_reg ?_
  obtain ⟨y103, h104, hF⟩ := bnd hF
  refine x_call en11 hA (F_files_New (L := L) 100 h104 hS) (fun v ac w hR hA => ?_) rfl rfl rfl rfl rfl
  obtain ⟨p105, rfl, hS⟩ := hR
  refine x_move hA (fun ac hA => ?_) rfl rfl rfl rfl rfl
  refine x_val hA (r_extract rfl (hA.ev rfl) rfl) (fun ac hA => ?_) rfl rfl rfl
  refine x_val hA (r_extract rfl (hA.ev rfl) rfl) (fun ac hA => ?_) rfl rfl rfl
  refine x_assign hA (fun ac hA => ?_) rfl rfl rfl rfl rfl
  refine x_assign hA (fun ac hA => ?_) rfl rfl rfl rfl rfl
  refine wpList_nil ?_
  refine hK102 _ _ ?_
  refine wp_seq_k fun K106 hK106 => ?_
  refine wp_seq_k fun K107 hK107 => ?_
  have hj1 : ∀ (o124 : (Option S68)) (b125 : Bool), law05_awake_j1 o124 b125 = some y → ∀ (ac : Act) (w : World), FR 54 [] ac [(1, .pointer p105), (39, .bool b125)] → SH r (optP (obj68) p105 o124 :: L) w → K107 ac w := by
    intro o124 b125 hF ac w hA hS
    unfold law05_awake_j1 at hF
    refine hK107 _ _ ?_
    refine c_if hA rfl (fun hb126 => ?_) fun hb126 => ?_
    · replace hF := ift hb126 hF
      refine wp_seq_k fun K127 hK127 => ?_
      refine wp_reg ?_
      refine x_assign hA (fun ac hA => ?_) rfl rfl rfl rfl rfl
      refine wpList_nil ?_
      refine hK127 _ _ ?_
      refine wp_ret ?_
      replace hS := hS.drop 0
      cases hF
      refine hQ _ _ ?_
      refine lv Try.results10 hA rfl ?_
      exact ⟨rfl, hS⟩
    replace hF := iff' hb126 hF
    refine wp_skip ?_
    refine hK106 _ _ ?_
    refine wp_seq_k fun K128 hK128 => ?_
    refine wp_reg ?_
    refine x_move hA (fun ac hA => ?_) rfl rfl rfl rfl rfl
    obtain ⟨y129, h130, hF⟩ := bnd hF
    refine x_call en13 hA (F_files_Store_Read (L := L) o124 [97] p105 h130 hS) (fun v ac w hR hA => ?_) rfl rfl rfl rfl rfl
    obtain ⟨B131, m132, d133, rfl, hS⟩ := hR
    refine x_move hA (fun ac hA => ?_) rfl rfl rfl rfl rfl
    refine x_val hA (r_extract rfl (hA.ev rfl) rfl) (fun ac hA => ?_) rfl rfl rfl
    refine x_val hA (r_extract rfl (hA.ev rfl) rfl) (fun ac hA => ?_) rfl rfl rfl
    refine x_assign hA (fun ac hA => ?_) rfl rfl rfl rfl rfl
    refine x_assign hA (fun ac hA => ?_) rfl rfl rfl rfl rfl
    refine wpList_nil ?_
    refine hK128 _ _ ?_
    refine wp_seq_k fun K134 hK134 => ?_
    refine wp_reg ?_
    refine x_move hA (fun ac hA => ?_) rfl rfl rfl rfl rfl
    refine x_val hA (r_eqI rfl (hA.ev rfl) (hA.ev rfl)) (fun ac hA => ?_) rfl rfl rfl
    refine x_move hA (fun ac hA => ?_) rfl rfl rfl rfl rfl
    refine bcase (b := y129.2 == 0) (fun hb135 => ?_) fun hb135 => ?_
    · replace hF := ift hb135 hF
      refine x_on hb135 hA ?_ rfl rfl rfl
      refine x_move hA (fun ac hA => ?_) rfl rfl rfl rfl rfl
      refine x_on hb135 hA ?_ rfl rfl rfl
      refine x_b2s Try.underlying22 Try.underlying5 Try.underlying9 (hS.rd 0 rfl) hA (fun ac hA => ?_) rfl rfl rfl rfl rfl
      refine x_on hb135 hA ?_ rfl rfl rfl
      refine x_val hA (r_eqS rfl (hA.ev rfl) (hA.ev rfl)) (fun ac hA => ?_) rfl rfl rfl
      refine x_pickt hb135 hA (fun ac hA => ?_) rfl rfl rfl rfl rfl rfl
      refine x_move hA (fun ac hA => ?_) rfl rfl rfl rfl rfl
      refine bcase (b := (bts y129.1) == [120, 121, 122]) (fun hb136 => ?_) fun hb136 => ?_
      · replace hF := ift hb136 hF
        refine x_pickt hb136 hA (fun ac hA => ?_) rfl rfl rfl rfl rfl rfl
        refine x_assign hA (fun ac hA => ?_) rfl rfl rfl rfl rfl
        refine wpList_nil ?_
        refine hK134 _ _ ?_
        refine wp_ret ?_
        replace hS := hS.drop 0
        replace hS := hS.drop 0
        cases hF
        refine hQ _ _ ?_
        refine lv Try.results10 hA rfl ?_
        exact ⟨rfl, hS⟩
      replace hF := iff' hb136 hF
      refine x_pickf hb136 hA (fun ac hA => ?_) rfl rfl rfl rfl rfl rfl
      refine x_assign hA (fun ac hA => ?_) rfl rfl rfl rfl rfl
      refine wpList_nil ?_
      refine hK134 _ _ ?_
      refine wp_ret ?_
      replace hS := hS.drop 0
      replace hS := hS.drop 0
      cases hF
      refine hQ _ _ ?_
      refine lv Try.results10 hA rfl ?_
      exact ⟨rfl, hS⟩
    replace hF := iff' hb135 hF
    refine x_off hb135 hA (fun ac hA => ?_) rfl rfl rfl rfl rfl
    refine x_off hb135 hA (fun ac hA => ?_) rfl rfl rfl rfl rfl
    refine x_off hb135 hA (fun ac hA => ?_) rfl rfl rfl rfl rfl
    refine x_pickf hb135 hA (fun ac hA => ?_) rfl rfl rfl rfl rfl rfl
    refine x_move hA (fun ac hA => ?_) rfl rfl rfl rfl rfl
    refine x_pickf rfl hA (fun ac hA => ?_) rfl rfl rfl rfl rfl rfl
    refine x_assign hA (fun ac hA => ?_) rfl rfl rfl rfl rfl
    refine wpList_nil ?_
    refine hK134 _ _ ?_
    refine wp_ret ?_
    replace hS := hS.drop 0
    replace hS := hS.drop 0
    cases hF
    refine hQ _ _ ?_
    refine lv Try.results10 hA rfl ?_
    exact ⟨rfl, hS⟩
  refine wp_reg ?_
  refine x_move hA (fun ac hA => ?_) rfl rfl rfl rfl rfl
  refine x_val hA (r_neI rfl (hA.ev rfl) (hA.ev rfl)) (fun ac hA => ?_) rfl rfl rfl
  refine x_move hA (fun ac hA => ?_) rfl rfl rfl rfl rfl
  refine bcase (b := y103.2 != 0) (fun hb137 => ?_) fun hb137 => ?_
  · replace hF := ift hb137 hF
    refine x_off hb137 hA (fun ac hA => ?_) rfl rfl rfl rfl rfl
    refine x_off hb137 hA (fun ac hA => ?_) rfl rfl rfl rfl rfl
    refine x_pickt hb137 hA (fun ac hA => ?_) rfl rfl rfl rfl rfl rfl
    refine x_move hA (fun ac hA => ?_) rfl rfl rfl rfl rfl
    refine x_off rfl hA (fun ac hA => ?_) rfl rfl rfl rfl rfl
    refine x_off rfl hA (fun ac hA => ?_) rfl rfl rfl rfl rfl
    refine x_off rfl hA (fun ac hA => ?_) rfl rfl rfl rfl rfl
    refine x_off rfl hA (fun ac hA => ?_) rfl rfl rfl rfl rfl
    refine x_off rfl hA (fun ac hA => ?_) rfl rfl rfl rfl rfl
    refine x_pickt rfl hA (fun ac hA => ?_) rfl rfl rfl rfl rfl rfl
    refine x_move hA (fun ac hA => ?_) rfl rfl rfl rfl rfl
    refine x_off rfl hA (fun ac hA => ?_) rfl rfl rfl rfl rfl
    refine x_off rfl hA (fun ac hA => ?_) rfl rfl rfl rfl rfl
    refine x_off rfl hA (fun ac hA => ?_) rfl rfl rfl rfl rfl
    refine x_pickt rfl hA (fun ac hA => ?_) rfl rfl rfl rfl rfl rfl
    refine x_move hA (fun ac hA => ?_) rfl rfl rfl rfl rfl
    refine x_off rfl hA (fun ac hA => ?_) rfl rfl rfl rfl rfl
    refine x_off rfl hA (fun ac hA => ?_) rfl rfl rfl rfl rfl
    refine x_off rfl hA (fun ac hA => ?_) rfl rfl rfl rfl rfl
    refine x_off rfl hA (fun ac hA => ?_) rfl rfl rfl rfl rfl
    refine x_off rfl hA (fun ac hA => ?_) rfl rfl rfl rfl rfl
    refine x_pickt rfl hA (fun ac hA => ?_) rfl rfl rfl rfl rfl rfl
    refine x_move hA (fun ac hA => ?_) rfl rfl rfl rfl rfl
    refine x_off rfl hA (fun ac hA => ?_) rfl rfl rfl rfl rfl
    refine x_off rfl hA (fun ac hA => ?_) rfl rfl rfl rfl rfl
    refine x_off rfl hA (fun ac hA => ?_) rfl rfl rfl rfl rfl
    refine x_off rfl hA (fun ac hA => ?_) rfl rfl rfl rfl rfl
    refine x_pickt rfl hA (fun ac hA => ?_) rfl rfl rfl rfl rfl rfl
    refine wpList_nil ?_
    exact hj1 y103.1 true hF ac w (hA.sub _ rfl) hS
  replace hF := iff' hb137 hF
  refine x_on hb137 hA ?_ rfl rfl rfl
  refine x_move hA (fun ac hA => ?_) rfl rfl rfl rfl rfl
  refine x_on hb137 hA ?_ rfl rfl rfl
  have hpo := hS.optNone 0 rfl
  refine x_val hA (hpo ▸ r_eqNilP Try.underlying24 rfl (hA.ev rfl) (hA.ev rfl)) (fun ac hA => ?_) rfl rfl rfl
  refine x_pickf hb137 hA (fun ac hA => ?_) rfl rfl rfl rfl rfl rfl
  refine x_move hA (fun ac hA => ?_) rfl rfl rfl rfl rfl
  refine bcase (b := y103.1.isNone) (fun hb138 => ?_) fun hb138 => ?_
  · replace hF := ift hb138 hF
    refine x_off hb138 hA (fun ac hA => ?_) rfl rfl rfl rfl rfl
    refine x_off hb138 hA (fun ac hA => ?_) rfl rfl rfl rfl rfl
    refine x_off hb138 hA (fun ac hA => ?_) rfl rfl rfl rfl rfl
    refine x_off hb138 hA (fun ac hA => ?_) rfl rfl rfl rfl rfl
    refine x_off hb138 hA (fun ac hA => ?_) rfl rfl rfl rfl rfl
    refine x_pickt hb138 hA (fun ac hA => ?_) rfl rfl rfl rfl rfl rfl
    refine x_move hA (fun ac hA => ?_) rfl rfl rfl rfl rfl
    refine x_off rfl hA (fun ac hA => ?_) rfl rfl rfl rfl rfl
    refine x_off rfl hA (fun ac hA => ?_) rfl rfl rfl rfl rfl
    refine x_off rfl hA (fun ac hA => ?_) rfl rfl rfl rfl rfl
    refine x_pickt rfl hA (fun ac hA => ?_) rfl rfl rfl rfl rfl rfl
    refine x_move hA (fun ac hA => ?_) rfl rfl rfl rfl rfl
    refine x_off rfl hA (fun ac hA => ?_) rfl rfl rfl rfl rfl
    refine x_off rfl hA (fun ac hA => ?_) rfl rfl rfl rfl rfl
    refine x_off rfl hA (fun ac hA => ?_) rfl rfl rfl rfl rfl
    refine x_off rfl hA (fun ac hA => ?_) rfl rfl rfl rfl rfl
    refine x_off rfl hA (fun ac hA => ?_) rfl rfl rfl rfl rfl
    refine x_pickt rfl hA (fun ac hA => ?_) rfl rfl rfl rfl rfl rfl
    refine x_move hA (fun ac hA => ?_) rfl rfl rfl rfl rfl
    refine x_off rfl hA (fun ac hA => ?_) rfl rfl rfl rfl rfl
    refine x_off rfl hA (fun ac hA => ?_) rfl rfl rfl rfl rfl
    refine x_off rfl hA (fun ac hA => ?_) rfl rfl rfl rfl rfl
    refine x_off rfl hA (fun ac hA => ?_) rfl rfl rfl rfl rfl
    refine x_pickt rfl hA (fun ac hA => ?_) rfl rfl rfl rfl rfl rfl
    refine wpList_nil ?_
    exact hj1 y103.1 true hF ac w (hA.sub _ rfl) hS
  replace hF := iff' hb138 hF
  refine x_on hb138 hA ?_ rfl rfl rfl
  refine x_move hA (fun ac hA => ?_) rfl rfl rfl rfl rfl
  refine x_on hb138 hA ?_ rfl rfl rfl
  refine x_bsl (d := (kI .u8)) (e := 5) (ps := #[(0, .int .u8 120), (1, .int .u8 121)]) (cells := [.int .u8 120, .int .u8 121]) (xs := [120, 121]) (fun w => by kernel_rfl) rfl ⟨[.int .u8 120], _, rfl, rfl, ⟨[.int .u8 121], _, rfl, rfl, rfl⟩⟩ hA hS (fun g139 ac w hS hA => ?_) rfl rfl rfl rfl rfl rfl
  refine x_on hb138 hA ?_ rfl rfl rfl
  replace hS := own_ownm (by decide) hS
  refine x_cvM 0 Try.underlying22 Try.underlying5 hA hS rfl (fun  ac w hS hA => ?_) rfl rfl rfl rfl rfl
  refine x_on hb138 hA ?_ rfl rfl rfl
  replace hS := hS.pk 1
  obtain ⟨y140, h141, hF⟩ := bnd hF
  refine x_call en12 hA (F_files_Store_Append (L := ownm 5 (some ⟨g139, 0, none⟩) 2 2 [120, 121] :: L) y103.1 [97] [120, 121] p105 (some ⟨g139, 0, none⟩) 2 2 h141 (RdL.ownm 0 rfl (hS.dropN 1)) hS) (fun v ac w hR hA => ?_) rfl rfl rfl rfl rfl
  obtain ⟨rfl, hS⟩ := hR
  refine x_on hb138 hA ?_ rfl rfl rfl
  refine x_val hA (r_neI rfl (hA.ev rfl) (hA.ev rfl)) (fun ac hA => ?_) rfl rfl rfl
  refine x_pickf hb138 hA (fun ac hA => ?_) rfl rfl rfl rfl rfl rfl
  refine x_move hA (fun ac hA => ?_) rfl rfl rfl rfl rfl
  refine bcase (b := y140.1 != 0) (fun hb142 => ?_) fun hb142 => ?_
  · replace hF := ift hb142 hF
    refine x_off hb142 hA (fun ac hA => ?_) rfl rfl rfl rfl rfl
    refine x_off hb142 hA (fun ac hA => ?_) rfl rfl rfl rfl rfl
    refine x_off hb142 hA (fun ac hA => ?_) rfl rfl rfl rfl rfl
    refine x_pickt hb142 hA (fun ac hA => ?_) rfl rfl rfl rfl rfl rfl
    refine x_move hA (fun ac hA => ?_) rfl rfl rfl rfl rfl
    refine x_off rfl hA (fun ac hA => ?_) rfl rfl rfl rfl rfl
    refine x_off rfl hA (fun ac hA => ?_) rfl rfl rfl rfl rfl
    refine x_off rfl hA (fun ac hA => ?_) rfl rfl rfl rfl rfl
    refine x_off rfl hA (fun ac hA => ?_) rfl rfl rfl rfl rfl
    refine x_off rfl hA (fun ac hA => ?_) rfl rfl rfl rfl rfl
    refine x_pickt rfl hA (fun ac hA => ?_) rfl rfl rfl rfl rfl rfl
    refine x_move hA (fun ac hA => ?_) rfl rfl rfl rfl rfl
    refine x_off rfl hA (fun ac hA => ?_) rfl rfl rfl rfl rfl
    refine x_off rfl hA (fun ac hA => ?_) rfl rfl rfl rfl rfl
    refine x_off rfl hA (fun ac hA => ?_) rfl rfl rfl rfl rfl
    refine x_off rfl hA (fun ac hA => ?_) rfl rfl rfl rfl rfl
    refine x_pickt rfl hA (fun ac hA => ?_) rfl rfl rfl rfl rfl rfl
    refine wpList_nil ?_
    replace hS := hS.drop 1
    exact hj1 y140.2 true hF ac w (hA.sub _ rfl) hS
  replace hF := iff' hb142 hF
  refine x_on hb142 hA ?_ rfl rfl rfl
  refine x_move hA (fun ac hA => ?_) rfl rfl rfl rfl rfl
  refine x_on hb142 hA ?_ rfl rfl rfl
  obtain ⟨y143, h144, hF⟩ := bnd hF
  refine x_call en17 hA (F_files_Store_Sync (L := ownm 5 (some ⟨g139, 0, none⟩) 2 2 [120, 121] :: L) y140.2 [97] p105 h144 hS) (fun v ac w hR hA => ?_) rfl rfl rfl rfl rfl
  obtain ⟨rfl, hS⟩ := hR
  refine x_on hb142 hA ?_ rfl rfl rfl
  refine x_val hA (r_neI rfl (hA.ev rfl) (hA.ev rfl)) (fun ac hA => ?_) rfl rfl rfl
  refine x_pickf hb142 hA (fun ac hA => ?_) rfl rfl rfl rfl rfl rfl
  refine x_move hA (fun ac hA => ?_) rfl rfl rfl rfl rfl
  refine bcase (b := y143.1 != 0) (fun hb145 => ?_) fun hb145 => ?_
  · replace hF := ift hb145 hF
    refine x_off hb145 hA (fun ac hA => ?_) rfl rfl rfl rfl rfl
    refine x_off hb145 hA (fun ac hA => ?_) rfl rfl rfl rfl rfl
    refine x_off hb145 hA (fun ac hA => ?_) rfl rfl rfl rfl rfl
    refine x_off hb145 hA (fun ac hA => ?_) rfl rfl rfl rfl rfl
    refine x_off hb145 hA (fun ac hA => ?_) rfl rfl rfl rfl rfl
    refine x_pickt hb145 hA (fun ac hA => ?_) rfl rfl rfl rfl rfl rfl
    refine x_move hA (fun ac hA => ?_) rfl rfl rfl rfl rfl
    refine x_off rfl hA (fun ac hA => ?_) rfl rfl rfl rfl rfl
    refine x_off rfl hA (fun ac hA => ?_) rfl rfl rfl rfl rfl
    refine x_off rfl hA (fun ac hA => ?_) rfl rfl rfl rfl rfl
    refine x_off rfl hA (fun ac hA => ?_) rfl rfl rfl rfl rfl
    refine x_pickt rfl hA (fun ac hA => ?_) rfl rfl rfl rfl rfl rfl
    refine wpList_nil ?_
    replace hS := hS.drop 1
    exact hj1 y143.2 true hF ac w (hA.sub _ rfl) hS
  replace hF := iff' hb145 hF
  refine x_on hb145 hA ?_ rfl rfl rfl
  refine x_move hA (fun ac hA => ?_) rfl rfl rfl rfl rfl
  refine x_on hb145 hA ?_ rfl rfl rfl
  refine x_bsl (d := (kI .u8)) (e := 5) (ps := #[(0, .int .u8 122), (1, .int .u8 119)]) (cells := [.int .u8 122, .int .u8 119]) (xs := [122, 119]) (fun w => by kernel_rfl) rfl ⟨[.int .u8 122], _, rfl, rfl, ⟨[.int .u8 119], _, rfl, rfl, rfl⟩⟩ hA hS (fun g146 ac w hS hA => ?_) rfl rfl rfl rfl rfl rfl
  refine x_on hb145 hA ?_ rfl rfl rfl
  replace hS := own_ownm (by decide) hS
  refine x_cvM 0 Try.underlying22 Try.underlying5 hA hS rfl (fun  ac w hS hA => ?_) rfl rfl rfl rfl rfl
  refine x_on hb145 hA ?_ rfl rfl rfl
  replace hS := hS.pk 1
  obtain ⟨y147, h148, hF⟩ := bnd hF
  refine x_call en12 hA (F_files_Store_Append (L := ownm 5 (some ⟨g146, 0, none⟩) 2 2 [122, 119] :: ownm 5 (some ⟨g139, 0, none⟩) 2 2 [120, 121] :: L) y143.2 [97] [122, 119] p105 (some ⟨g146, 0, none⟩) 2 2 h148 (RdL.ownm 0 rfl (hS.dropN 1)) hS) (fun v ac w hR hA => ?_) rfl rfl rfl rfl rfl
  obtain ⟨rfl, hS⟩ := hR
  refine x_on hb145 hA ?_ rfl rfl rfl
  refine x_val hA (r_neI rfl (hA.ev rfl) (hA.ev rfl)) (fun ac hA => ?_) rfl rfl rfl
  refine x_pickf hb145 hA (fun ac hA => ?_) rfl rfl rfl rfl rfl rfl
  refine x_move hA (fun ac hA => ?_) rfl rfl rfl rfl rfl
  refine bcase (b := y147.1 != 0) (fun hb149 => ?_) fun hb149 => ?_
  · replace hF := ift hb149 hF
    refine x_off hb149 hA (fun ac hA => ?_) rfl rfl rfl rfl rfl
    refine x_off hb149 hA (fun ac hA => ?_) rfl rfl rfl rfl rfl
    refine x_off hb149 hA (fun ac hA => ?_) rfl rfl rfl rfl rfl
    refine x_off hb149 hA (fun ac hA => ?_) rfl rfl rfl rfl rfl
    refine x_pickt hb149 hA (fun ac hA => ?_) rfl rfl rfl rfl rfl rfl
    refine wpList_nil ?_
    replace hS := hS.drop 1
    replace hS := hS.drop 1
    exact hj1 y147.2 true hF ac w (hA.sub _ rfl) hS
  replace hF := iff' hb149 hF
  refine x_on hb149 hA ?_ rfl rfl rfl
  refine x_move hA (fun ac hA => ?_) rfl rfl rfl rfl rfl
  refine x_on hb149 hA ?_ rfl rfl rfl
  refine x_bsl (d := (kI .i64)) (e := 3) (ps := #[(0, .int .i64 1)]) (cells := [.int .i64 1]) (xs := [1]) (fun w => by kernel_rfl) rfl ⟨[.int .i64 1], _, rfl, rfl, rfl⟩ hA hS (fun g150 ac w hS hA => ?_) rfl rfl rfl rfl rfl rfl
  refine x_on hb149 hA ?_ rfl rfl rfl
  replace hS := hS.pk 1
  obtain ⟨y151, h152, hF⟩ := bnd hF
  refine x_call en19 hA (F_files_Store_Restart (L := own (kI .i64) 3 (some ⟨g150, 0, none⟩) 1 1 [1] :: ownm 5 (some ⟨g146, 0, none⟩) 2 2 [122, 119] :: ownm 5 (some ⟨g139, 0, none⟩) 2 2 [120, 121] :: L) y147.2 [1] p105 (some ⟨g150, 0, none⟩) 1 1 h152 (RdL.own 0 rfl (hS.dropN 1)) hS) (fun v ac w hR hA => ?_) rfl rfl rfl rfl rfl
  obtain ⟨rfl, hS⟩ := hR
  refine x_on hb149 hA ?_ rfl rfl rfl
  refine x_val hA (r_neI rfl (hA.ev rfl) (hA.ev rfl)) (fun ac hA => ?_) rfl rfl rfl
  refine x_pickf hb149 hA (fun ac hA => ?_) rfl rfl rfl rfl rfl rfl
  refine wpList_nil ?_
  replace hS := hS.drop 1
  replace hS := hS.drop 1
  replace hS := hS.drop 1
  exact hj1 y151.2 (y151.1 != 0) hF ac w (hA.sub _ rfl) hS
end Go.Proofs.Ytgjhiojkkjaloaa.M
