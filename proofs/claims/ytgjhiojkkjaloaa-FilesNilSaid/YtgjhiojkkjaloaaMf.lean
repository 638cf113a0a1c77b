/- The calls come to the plain functions. -/
import Derived.Test.YtgjhiojkkjaloaaMc
import Derived.Test.YtgjhiojkkjaloaaEo
import Derived.Test.YtgjhiojkkjaloaaDf
namespace Go.Proofs.Ytgjhiojkkjaloaa.M
open Go Go.RowKit Go.Proofs.Ytgjhiojkkjaloaa.E
set_option linter.unusedVariables false
set_option linter.unusedSimpArgs false

set_option maxHeartbeats 4000000 in
theorem F_law05_awake {r : World} {L : List HP} {w : World} {y : (Bool)} (hF : law05_awake = some y) (hS : SH r (L) w) :
    Ret Try.prog 10 #[] w fun v w' => v = .bool y ∧ SH r (L) w' := by
  refine enter Try.func10 rfl Try.ntmps10 [] rfl (by simp) ?_
  intro ac hA Qf hQ hQn
  unfold law05_awake at hF
  refine wp_seq_k fun K101 hK101 => ?_
  refine wp_reg ?_
  refine x_assign hA (fun ac hA => ?_) rfl rfl rfl rfl rfl
  refine wpList_nil ?_
  refine hK101 _ _ ?_
  refine wp_seq_k fun K102 hK102 => ?_
  refine wp_reg ?_
  obtain ⟨y103, h104, hF⟩ := bnd hF
  refine x_call en11 hA (F_files_New (L := L) 100 h104 hS) (fun v ac w hR hA => ?_) rfl rfl rfl rfl rfl
  obtain ⟨p105, rfl, hS⟩ := hR
  refine x_move hA (fun ac hA => ?_) rfl rfl rfl rfl rfl
  refine x_val hA (r_extract rfl (hA.ev rfl) rfl) (fun ac hA => ?_) rfl rfl rfl
  refine x_val hA (r_extract rfl (hA.ev rfl) rfl) (fun ac hA => ?_) rfl rfl rfl
  refine x_assign hA (fun ac hA => ?_) rfl rfl rfl rfl rfl
  refine x_assign hA (fun ac hA => ?_) rfl rfl rfl rfl rfl
  refine wpList_nil ?_
  refine hK102 _ _ ?_
  refine wp_seq_k fun K106 hK106 => ?_
  refine wp_seq_k fun K107 hK107 => ?_
  have hj1 : ∀ (o124 : (Option S68)) (b125 : Bool), law05_awake_j1 o124 b125 = some y → ∀ (ac : Act) (w : World), FR 54 [] ac [(1, .pointer p105), (39, .bool b125)] → SH r (optP (obj68) p105 o124 :: L) w → K107 ac w := by
    intro o124 b125 hF ac w hA hS
    unfold law05_awake_j1 at hF
    refine hK107 _ _ ?_
    refine c_if hA rfl (fun hb126 => ?_) fun hb126 => ?_
    · replace hF := ift hb126 hF
      refine wp_seq_k fun K127 hK127 => ?_
      refine wp_reg ?_
      refine x_assign hA (fun ac hA => ?_) rfl rfl rfl rfl rfl
      refine wpList_nil ?_
      refine hK127 _ _ ?_
      refine wp_ret ?_
      replace hS := hS.drop 0
      cases hF
      refine hQ _ _ ?_
      refine lv Try.results10 hA rfl ?_
      exact ⟨rfl, hS⟩
    replace hF := iff' hb126 hF
    refine wp_skip ?_
    refine hK106 _ _ ?_
    refine wp_seq_k fun K128 hK128 => ?_
    refine wp_reg ?_
    refine x_move hA (fun ac hA => ?_) rfl rfl rfl rfl rfl
    obtain ⟨y129, h130, hF⟩ := bnd hF
    refine x_call en13 hA (F_files_Store_Read (L := L) o124 [97] p105 h130 hS) (fun v ac w hR hA => ?_) rfl rfl rfl rfl rfl
    obtain ⟨B131, m132, d133, rfl, hS⟩ := hR
    refine x_move hA (fun ac hA => ?_) rfl rfl rfl rfl rfl
    refine x_val hA (r_extract rfl (hA.ev rfl) rfl) (fun ac hA => ?_) rfl rfl rfl
    refine x_val hA (r_extract rfl (hA.ev rfl) rfl) (fun ac hA => ?_) rfl rfl rfl
    refine x_assign hA (fun ac hA => ?_) rfl rfl rfl rfl rfl
    refine x_assign hA (fun ac hA => ?_) rfl rfl rfl rfl rfl
    refine wpList_nil ?_
    refine hK128 _ _ ?_
    refine wp_seq_k fun K134 hK134 => ?_
    refine wp_reg ?_
    refine x_move hA (fun ac hA => ?_) rfl rfl rfl rfl rfl
    refine x_val hA (r_eqI rfl (hA.ev rfl) (hA.ev rfl)) (fun ac hA => ?_) rfl rfl rfl
    refine x_move hA (fun ac hA => ?_) rfl rfl rfl rfl rfl
    refine bcase (b := y129.2 == 0) (fun hb135 => ?_) fun hb135 => ?_
    · replace hF := ift hb135 hF
      refine x_on hb135 hA ?_ rfl rfl rfl
      refine x_move hA (fun ac hA => ?_) rfl rfl rfl rfl rfl
      refine x_on hb135 hA ?_ rfl rfl rfl
      refine x_b2s Try.underlying22 Try.underlying5 Try.underlying9 (hS.rd 0 rfl) hA (fun ac hA => ?_) rfl rfl rfl rfl rfl
      refine x_on hb135 hA ?_ rfl rfl rfl
      refine x_val hA (r_eqS rfl (hA.ev rfl) (hA.ev rfl)) (fun ac hA => ?_) rfl rfl rfl
      refine x_pickt hb135 hA (fun ac hA => ?_) rfl rfl rfl rfl rfl rfl
      refine x_move hA (fun ac hA => ?_) rfl rfl rfl rfl rfl
      refine bcase (b := (bts y129.1) == [120, 121, 122]) (fun hb136 => ?_) fun hb136 => ?_
      · replace hF := ift hb136 hF
        refine x_pickt hb136 hA (fun ac hA => ?_) rfl rfl rfl rfl rfl rfl
        refine x_assign hA (fun ac hA => ?_) rfl rfl rfl rfl rfl
        refine wpList_nil ?_
        refine hK134 _ _ ?_
        refine wp_ret ?_
        replace hS := hS.drop 0
        replace hS := hS.drop 0
        cases hF
        refine hQ _ _ ?_
        refine lv Try.results10 hA rfl ?_
        exact ⟨rfl, hS⟩
      replace hF := iff' hb136 hF
      refine x_pickf hb136 hA (fun ac hA => ?_) rfl rfl rfl rfl rfl rfl
      refine x_assign hA (fun ac hA => ?_) rfl rfl rfl rfl rfl
      refine wpList_nil ?_
      refine hK134 _ _ ?_
      refine wp_ret ?_
      replace hS := hS.drop 0
      replace hS := hS.drop 0
      cases hF
      refine hQ _ _ ?_
      refine lv Try.results10 hA rfl ?_
      exact ⟨rfl, hS⟩
    replace hF := iff' hb135 hF
    refine x_off hb135 hA (fun ac hA => ?_) rfl rfl rfl rfl rfl
    refine x_off hb135 hA (fun ac hA => ?_) rfl rfl rfl rfl rfl
    refine x_off hb135 hA (fun ac hA => ?_) rfl rfl rfl rfl rfl
    refine x_pickf hb135 hA (fun ac hA => ?_) rfl rfl rfl rfl rfl rfl
    refine x_move hA (fun ac hA => ?_) rfl rfl rfl rfl rfl
    refine x_pickf rfl hA (fun ac hA => ?_) rfl rfl rfl rfl rfl rfl
    refine x_assign hA (fun ac hA => ?_) rfl rfl rfl rfl rfl
    refine wpList_nil ?_
    refine hK134 _ _ ?_
    refine wp_ret ?_
    replace hS := hS.drop 0
    replace hS := hS.drop 0
    cases hF
    refine hQ _ _ ?_
    refine lv Try.results10 hA rfl ?_
    exact ⟨rfl, hS⟩
  refine wp_reg ?_
  refine x_move hA (fun ac hA => ?_) rfl rfl rfl rfl rfl
  refine x_val hA (r_neI rfl (hA.ev rfl) (hA.ev rfl)) (fun ac hA => ?_) rfl rfl rfl
  refine x_move hA (fun ac hA => ?_) rfl rfl rfl rfl rfl
  refine bcase (b := y103.2 != 0) (fun hb137 => ?_) fun hb137 => ?_
  · replace hF := ift hb137 hF
    refine x_off hb137 hA (fun ac hA => ?_) rfl rfl rfl rfl rfl
    refine x_off hb137 hA (fun ac hA => ?_) rfl rfl rfl rfl rfl
    refine x_pickt hb137 hA (fun ac hA => ?_) rfl rfl rfl rfl rfl rfl
    refine x_move hA (fun ac hA => ?_) rfl rfl rfl rfl rfl
    refine x_off rfl hA (fun ac hA => ?_) rfl rfl rfl rfl rfl
    refine x_off rfl hA (fun ac hA => ?_) rfl rfl rfl rfl rfl
    refine x_off rfl hA (fun ac hA => ?_) rfl rfl rfl rfl rfl
    refine x_off rfl hA (fun ac hA => ?_) rfl rfl rfl rfl rfl
    refine x_off rfl hA (fun ac hA => ?_) rfl rfl rfl rfl rfl
    refine x_pickt rfl hA (fun ac hA => ?_) rfl rfl rfl rfl rfl rfl
    refine x_move hA (fun ac hA => ?_) rfl rfl rfl rfl rfl
    refine x_off rfl hA (fun ac hA => ?_) rfl rfl rfl rfl rfl
    refine x_off rfl hA (fun ac hA => ?_) rfl rfl rfl rfl rfl
    refine x_off rfl hA (fun ac hA => ?_) rfl rfl rfl rfl rfl
    refine x_pickt rfl hA (fun ac hA => ?_) rfl rfl rfl rfl rfl rfl
    refine x_move hA (fun ac hA => ?_) rfl rfl rfl rfl rfl
    refine x_off rfl hA (fun ac hA => ?_) rfl rfl rfl rfl rfl
    refine x_off rfl hA (fun ac hA => ?_) rfl rfl rfl rfl rfl
    refine x_off rfl hA (fun ac hA => ?_) rfl rfl rfl rfl rfl
    refine x_off rfl hA (fun ac hA => ?_) rfl rfl rfl rfl rfl
    refine x_off rfl hA (fun ac hA => ?_) rfl rfl rfl rfl rfl
    refine x_pickt rfl hA (fun ac hA => ?_) rfl rfl rfl rfl rfl rfl
    refine x_move hA (fun ac hA => ?_) rfl rfl rfl rfl rfl
    refine x_off rfl hA (fun ac hA => ?_) rfl rfl rfl rfl rfl
    refine x_off rfl hA (fun ac hA => ?_) rfl rfl rfl rfl rfl
    refine x_off rfl hA (fun ac hA => ?_) rfl rfl rfl rfl rfl
    refine x_off rfl hA (fun ac hA => ?_) rfl rfl rfl rfl rfl
    refine x_pickt rfl hA (fun ac hA => ?_) rfl rfl rfl rfl rfl rfl
    refine wpList_nil ?_
    exact hj1 y103.1 true hF ac w (hA.sub _ rfl) hS
  replace hF := iff' hb137 hF
  refine x_on hb137 hA ?_ rfl rfl rfl
  refine x_move hA (fun ac hA => ?_) rfl rfl rfl rfl rfl
  refine x_on hb137 hA ?_ rfl rfl rfl
  have hpo := hS.optNone 0 rfl
  refine x_val hA (hpo ▸ r_eqNilP Try.underlying24 rfl (hA.ev rfl) (hA.ev rfl)) (fun ac hA => ?_) rfl rfl rfl
  refine x_pickf hb137 hA (fun ac hA => ?_) rfl rfl rfl rfl rfl rfl
  refine x_move hA (fun ac hA => ?_) rfl rfl rfl rfl rfl
  refine bcase (b := y103.1.isNone) (fun hb138 => ?_) fun hb138 => ?_
  · replace hF := ift hb138 hF
    refine x_off hb138 hA (fun ac hA => ?_) rfl rfl rfl rfl rfl
    refine x_off hb138 hA (fun ac hA => ?_) rfl rfl rfl rfl rfl
    refine x_off hb138 hA (fun ac hA => ?_) rfl rfl rfl rfl rfl
    refine x_off hb138 hA (fun ac hA => ?_) rfl rfl rfl rfl rfl
    refine x_off hb138 hA (fun ac hA => ?_) rfl rfl rfl rfl rfl
    refine x_pickt hb138 hA (fun ac hA => ?_) rfl rfl rfl rfl rfl rfl
    refine x_move hA (fun ac hA => ?_) rfl rfl rfl rfl rfl
    refine x_off rfl hA (fun ac hA => ?_) rfl rfl rfl rfl rfl
    refine x_off rfl hA (fun ac hA => ?_) rfl rfl rfl rfl rfl
    refine x_off rfl hA (fun ac hA => ?_) rfl rfl rfl rfl rfl
    refine x_pickt rfl hA (fun ac hA => ?_) rfl rfl rfl rfl rfl rfl
    refine x_move hA (fun ac hA => ?_) rfl rfl rfl rfl rfl
    refine x_off rfl hA (fun ac hA => ?_) rfl rfl rfl rfl rfl
    refine x_off rfl hA (fun ac hA => ?_) rfl rfl rfl rfl rfl
    refine x_off rfl hA (fun ac hA => ?_) rfl rfl rfl rfl rfl
    refine x_off rfl hA (fun ac hA => ?_) rfl rfl rfl rfl rfl
    refine x_off rfl hA (fun ac hA => ?_) rfl rfl rfl rfl rfl
    refine x_pickt rfl hA (fun ac hA => ?_) rfl rfl rfl rfl rfl rfl
    refine x_move hA (fun ac hA => ?_) rfl rfl rfl rfl rfl
    refine x_off rfl hA (fun ac hA => ?_) rfl rfl rfl rfl rfl
    refine x_off rfl hA (fun ac hA => ?_) rfl rfl rfl rfl rfl
    refine x_off rfl hA (fun ac hA => ?_) rfl rfl rfl rfl rfl
    refine x_off rfl hA (fun ac hA => ?_) rfl rfl rfl rfl rfl
    refine x_pickt rfl hA (fun ac hA => ?_) rfl rfl rfl rfl rfl rfl
    refine wpList_nil ?_
    exact hj1 y103.1 true hF ac w (hA.sub _ rfl) hS
  replace hF := iff' hb138 hF
  refine x_on hb138 hA ?_ rfl rfl rfl
  refine x_move hA (fun ac hA => ?_) rfl rfl rfl rfl rfl
  refine x_on hb138 hA ?_ rfl rfl rfl
  refine x_bsl (d := (kI .u8)) (e := 5) (ps := #[(0, .int .u8 120), (1, .int .u8 121)]) (cells := [.int .u8 120, .int .u8 121]) (xs := [120, 121]) (fun w => by kernel_rfl) rfl ⟨[.int .u8 120], _, rfl, rfl, ⟨[.int .u8 121], _, rfl, rfl, rfl⟩⟩ hA hS (fun g139 ac w hS hA => ?_) rfl rfl rfl rfl rfl rfl
  refine x_on hb138 hA ?_ rfl rfl rfl
  replace hS := own_ownm (by decide) hS
  refine x_cvM 0 Try.underlying22 Try.underlying5 hA hS rfl (fun  ac w hS hA => ?_) rfl rfl rfl rfl rfl
  refine x_on hb138 hA ?_ rfl rfl rfl
  replace hS := hS.pk 1
  obtain ⟨y140, h141, hF⟩ := bnd hF
  refine x_call en12 hA (F_files_Store_Append (L := ownm 5 (some ⟨g139, 0, none⟩) 2 2 [120, 121] :: L) y103.1 [97] [120, 121] p105 (some ⟨g139, 0, none⟩) 2 2 h141 (RdL.ownm 0 rfl (hS.dropN 1)) hS) (fun v ac w hR hA => ?_) rfl rfl rfl rfl rfl
  obtain ⟨rfl, hS⟩ := hR
  refine x_on hb138 hA ?_ rfl rfl rfl
  refine x_val hA (r_neI rfl (hA.ev rfl) (hA.ev rfl)) (fun ac hA => ?_) rfl rfl rfl
  refine x_pickf hb138 hA (fun ac hA => ?_) rfl rfl rfl rfl rfl rfl
  refine x_move hA (fun ac hA => ?_) rfl rfl rfl rfl rfl
  refine bcase (b := y140.1 != 0) (fun hb142 => ?_) fun hb142 => ?_
  · replace hF := ift hb142 hF
    refine x_off hb142 hA (fun ac hA => ?_) rfl rfl rfl rfl rfl
    refine x_off hb142 hA (fun ac hA => ?_) rfl rfl rfl rfl rfl
    refine x_off hb142 hA (fun ac hA => ?_) rfl rfl rfl rfl rfl
    refine x_pickt hb142 hA (fun ac hA => ?_) rfl rfl rfl rfl rfl rfl
    refine x_move hA (fun ac hA => ?_) rfl rfl rfl rfl rfl
    refine x_off rfl hA (fun ac hA => ?_) rfl rfl rfl rfl rfl
    refine x_off rfl hA (fun ac hA => ?_) rfl rfl rfl rfl rfl
    refine x_off rfl hA (fun ac hA => ?_) rfl rfl rfl rfl rfl
    refine x_off rfl hA (fun ac hA => ?_) rfl rfl rfl rfl rfl
    refine x_off rfl hA (fun ac hA => ?_) rfl rfl rfl rfl rfl
    refine x_pickt rfl hA (fun ac hA => ?_) rfl rfl rfl rfl rfl rfl
    refine x_move hA (fun ac hA => ?_) rfl rfl rfl rfl rfl
    refine x_off rfl hA (fun ac hA => ?_) rfl rfl rfl rfl rfl
    refine x_off rfl hA (fun ac hA => ?_) rfl rfl rfl rfl rfl
    refine x_off rfl hA (fun ac hA => ?_) rfl rfl rfl rfl rfl
    refine x_off rfl hA (fun ac hA => ?_) rfl rfl rfl rfl rfl
    refine x_pickt rfl hA (fun ac hA => ?_) rfl rfl rfl rfl rfl rfl
    refine wpList_nil ?_
    replace hS := hS.drop 1
    exact hj1 y140.2 true hF ac w (hA.sub _ rfl) hS
  replace hF := iff' hb142 hF
  refine x_on hb142 hA ?_ rfl rfl rfl
  refine x_move hA (fun ac hA => ?_) rfl rfl rfl rfl rfl
  refine x_on hb142 hA ?_ rfl rfl rfl
  obtain ⟨y143, h144, hF⟩ := bnd hF
  refine x_call en17 hA (F_files_Store_Sync (L := ownm 5 (some ⟨g139, 0, none⟩) 2 2 [120, 121] :: L) y140.2 [97] p105 h144 hS) (fun v ac w hR hA => ?_) rfl rfl rfl rfl rfl
  obtain ⟨rfl, hS⟩ := hR
  refine x_on hb142 hA ?_ rfl rfl rfl
  refine x_val hA (r_neI rfl (hA.ev rfl) (hA.ev rfl)) (fun ac hA => ?_) rfl rfl rfl
  refine x_pickf hb142 hA (fun ac hA => ?_) rfl rfl rfl rfl rfl rfl
  refine x_move hA (fun ac hA => ?_) rfl rfl rfl rfl rfl
  refine bcase (b := y143.1 != 0) (fun hb145 => ?_) fun hb145 => ?_
  · replace hF := ift hb145 hF
    refine x_off hb145 hA (fun ac hA => ?_) rfl rfl rfl rfl rfl
    refine x_off hb145 hA (fun ac hA => ?_) rfl rfl rfl rfl rfl
    refine x_off hb145 hA (fun ac hA => ?_) rfl rfl rfl rfl rfl
    refine x_off hb145 hA (fun ac hA => ?_) rfl rfl rfl rfl rfl
    refine x_off hb145 hA (fun ac hA => ?_) rfl rfl rfl rfl rfl
    refine x_pickt hb145 hA (fun ac hA => ?_) rfl rfl rfl rfl rfl rfl
    refine x_move hA (fun ac hA => ?_) rfl rfl rfl rfl rfl
    refine x_off rfl hA (fun ac hA => ?_) rfl rfl rfl rfl rfl
    refine x_off rfl hA (fun ac hA => ?_) rfl rfl rfl rfl rfl
    refine x_off rfl hA (fun ac hA => ?_) rfl rfl rfl rfl rfl
    refine x_off rfl hA (fun ac hA => ?_) rfl rfl rfl rfl rfl
    refine x_pickt rfl hA (fun ac hA => ?_) rfl rfl rfl rfl rfl rfl
    refine wpList_nil ?_
    replace hS := hS.drop 1
    exact hj1 y143.2 true hF ac w (hA.sub _ rfl) hS
  replace hF := iff' hb145 hF
  refine x_on hb145 hA ?_ rfl rfl rfl
  refine x_move hA (fun ac hA => ?_) rfl rfl rfl rfl rfl
  refine x_on hb145 hA ?_ rfl rfl rfl
  refine x_bsl (d := (kI .u8)) (e := 5) (ps := #[(0, .int .u8 122), (1, .int .u8 119)]) (cells := [.int .u8 122, .int .u8 119]) (xs := [122, 119]) (fun w => by kernel_rfl) rfl ⟨[.int .u8 122], _, rfl, rfl, ⟨[.int .u8 119], _, rfl, rfl, rfl⟩⟩ hA hS (fun g146 ac w hS hA => ?_) rfl rfl rfl rfl rfl rfl
  refine x_on hb145 hA ?_ rfl rfl rfl
  replace hS := own_ownm (by decide) hS
  refine x_cvM 0 Try.underlying22 Try.underlying5 hA hS rfl (fun  ac w hS hA => ?_) rfl rfl rfl rfl rfl
  refine x_on hb145 hA ?_ rfl rfl rfl
  replace hS := hS.pk 1
  obtain ⟨y147, h148, hF⟩ := bnd hF
  refine x_call en12 hA (F_files_Store_Append (L := ownm 5 (some ⟨g146, 0, none⟩) 2 2 [122, 119] :: ownm 5 (some ⟨g139, 0, none⟩) 2 2 [120, 121] :: L) y143.2 [97] [122, 119] p105 (some ⟨g146, 0, none⟩) 2 2 h148 (RdL.ownm 0 rfl (hS.dropN 1)) hS) (fun v ac w hR hA => ?_) rfl rfl rfl rfl rfl
  obtain ⟨rfl, hS⟩ := hR
  refine x_on hb145 hA ?_ rfl rfl rfl
  refine x_val hA (r_neI rfl (hA.ev rfl) (hA.ev rfl)) (fun ac hA => ?_) rfl rfl rfl
  refine x_pickf hb145 hA (fun ac hA => ?_) rfl rfl rfl rfl rfl rfl
  refine x_move hA (fun ac hA => ?_) rfl rfl rfl rfl rfl
  refine bcase (b := y147.1 != 0) (fun hb149 => ?_) fun hb149 => ?_
  · replace hF := ift hb149 hF
    refine x_off hb149 hA (fun ac hA => ?_) rfl rfl rfl rfl rfl
    refine x_off hb149 hA (fun ac hA => ?_) rfl rfl rfl rfl rfl
    refine x_off hb149 hA (fun ac hA => ?_) rfl rfl rfl rfl rfl
    refine x_off hb149 hA (fun ac hA => ?_) rfl rfl rfl rfl rfl
    refine x_pickt hb149 hA (fun ac hA => ?_) rfl rfl rfl rfl rfl rfl
    refine wpList_nil ?_
    replace hS := hS.drop 1
    replace hS := hS.drop 1
    exact hj1 y147.2 true hF ac w (hA.sub _ rfl) hS
  replace hF := iff' hb149 hF
  refine x_on hb149 hA ?_ rfl rfl rfl
  refine x_move hA (fun ac hA => ?_) rfl rfl rfl rfl rfl
  refine x_on hb149 hA ?_ rfl rfl rfl
  refine x_bsl (d := (kI .i64)) (e := 3) (ps := #[(0, .int .i64 1)]) (cells := [.int .i64 1]) (xs := [1]) (fun w => by kernel_rfl) rfl ⟨[.int .i64 1], _, rfl, rfl, rfl⟩ hA hS (fun g150 ac w hS hA => ?_) rfl rfl rfl rfl rfl rfl
  refine x_on hb149 hA ?_ rfl rfl rfl
  replace hS := hS.pk 1
  obtain ⟨y151, h152, hF⟩ := bnd hF
  refine x_call en19 hA (F_files_Store_Restart (L := own (kI .i64) 3 (some ⟨g150, 0, none⟩) 1 1 [1] :: ownm 5 (some ⟨g146, 0, none⟩) 2 2 [122, 119] :: ownm 5 (some ⟨g139, 0, none⟩) 2 2 [120, 121] :: L) y147.2 [1] p105 (some ⟨g150, 0, none⟩) 1 1 h152 (RdL.own 0 rfl (hS.dropN 1)) hS) (fun v ac w hR hA => ?_) rfl rfl rfl rfl rfl
  obtain ⟨rfl, hS⟩ := hR
  refine x_on hb149 hA ?_ rfl rfl rfl
  refine x_val hA (r_neI rfl (hA.ev rfl) (hA.ev rfl)) (fun ac hA => ?_) rfl rfl rfl
  refine x_pickf hb149 hA (fun ac hA => ?_) rfl rfl rfl rfl rfl rfl
  refine wpList_nil ?_
  replace hS := hS.drop 1
  replace hS := hS.drop 1
  replace hS := hS.drop 1
  exact hj1 y151.2 (y151.1 != 0) hF ac w (hA.sub _ rfl) hS

set_option maxHeartbeats 4000000 in
theorem F_law05_FilesSure {r : World} {L : List HP} {w : World} (a0 : (List Int)) (a1 : (List Int)) (a2 : Int) (a3 : Bool) (A0 : Option Addr) (n0 : Nat) (c0 : Nat) (A1 : Option Addr) (n1 : Nat) (c1 : Nat) {y : (Bool)} (hF : law05_FilesSure a0 a1 a2 a3 = some y) (ha0 : RdL L (kI .u8) A0 n0 c0 a0) (ha1 : RdL L (kI .u8) A1 n1 c1 a1) (hS : SH r (L) w) :
    Ret Try.prog 5 #[.slice A0 n0 c0, .slice A1 n1 c1, .int .i64 a2, .bool a3] w fun v w' => v = .bool y ∧ SH r (L) w' := by
  refine enter Try.func5 rfl Try.ntmps5 [(0, .slice A0 n0 c0), (1, .slice A1 n1 c1), (2, .int .i64 a2), (3, .bool a3)] rfl (by simp) ?_
  intro ac hA Qf hQ hQn
  unfold law05_FilesSure at hF
  refine wp_seq_k fun K101 hK101 => ?_
  refine wp_reg ?_
  refine x_assign hA (fun ac hA => ?_) rfl rfl rfl rfl rfl
  refine wpList_nil ?_
  refine hK101 _ _ ?_
  refine wp_seq_k fun K102 hK102 => ?_
  refine wp_seq_k fun K103 hK103 => ?_
  have hj1 : ∀ (b109 : Bool), law05_FilesSure_j1 a0 a1 a2 a3 b109 = some y → ∀ (ac : Act) (w : World), FR 101 [] ac [(0, .slice A0 n0 c0), (1, .slice A1 n1 c1), (2, .int .i64 a2), (3, .bool a3), (24, .bool b109)] → SH r (L) w → K103 ac w := by
    intro b109 hF ac w hA hS
    unfold law05_FilesSure_j1 at hF
    refine hK103 _ _ ?_
    refine c_if hA rfl (fun hb110 => ?_) fun hb110 => ?_
    · replace hF := ift hb110 hF
      refine wp_seq_k fun K111 hK111 => ?_
      refine wp_reg ?_
      obtain ⟨y112, h113, hF⟩ := bnd hF
      refine x_call en10 hA (F_law05_awake (L := L) h113 hS) (fun v ac w hR hA => ?_) rfl rfl rfl rfl rfl
      obtain ⟨rfl, hS⟩ := hR
      refine x_assign hA (fun ac hA => ?_) rfl rfl rfl rfl rfl
      refine wpList_nil ?_
      refine hK111 _ _ ?_
      refine wp_ret ?_
      cases hF
      refine hQ _ _ ?_
      refine lv Try.results5 hA rfl ?_
      exact ⟨rfl, hS⟩
    replace hF := iff' hb110 hF
    refine wp_skip ?_
    refine hK102 _ _ ?_
    refine wp_seq_k fun K114 hK114 => ?_
    refine wp_reg ?_
    obtain ⟨y115, h116, hF⟩ := bnd hF
    refine x_call en11 hA (F_files_New (L := L) 5000 h116 hS) (fun v ac w hR hA => ?_) rfl rfl rfl rfl rfl
    obtain ⟨p117, rfl, hS⟩ := hR
    refine x_move hA (fun ac hA => ?_) rfl rfl rfl rfl rfl
    refine x_val hA (r_extract rfl (hA.ev rfl) rfl) (fun ac hA => ?_) rfl rfl rfl
    refine x_val hA (r_extract rfl (hA.ev rfl) rfl) (fun ac hA => ?_) rfl rfl rfl
    refine x_assign hA (fun ac hA => ?_) rfl rfl rfl rfl rfl
    refine x_assign hA (fun ac hA => ?_) rfl rfl rfl rfl rfl
    refine wpList_nil ?_
    refine hK114 _ _ ?_
    refine wp_seq_k fun K118 hK118 => ?_
    refine wp_seq_k fun K119 hK119 => ?_
    have hj2 : ∀ (o128 : (Option S68)) (b129 : Bool), law05_FilesSure_j2 a0 a1 a2 a3 o128 b129 = some y → ∀ (ac : Act) (w : World), FR 101 [] ac [(0, .slice A0 n0 c0), (1, .slice A1 n1 c1), (2, .int .i64 a2), (3, .bool a3), (9, .pointer p117), (44, .bool b129)] → SH r (optP (obj68) p117 o128 :: L) w → K119 ac w := by
      intro o128 b129 hF ac w hA hS
      unfold law05_FilesSure_j2 at hF
      refine hK119 _ _ ?_
      refine c_if hA rfl (fun hb130 => ?_) fun hb130 => ?_
      · replace hF := ift hb130 hF
        refine wp_seq_k fun K131 hK131 => ?_
        refine wp_reg ?_
        refine x_assign hA (fun ac hA => ?_) rfl rfl rfl rfl rfl
        refine wpList_nil ?_
        refine hK131 _ _ ?_
        refine wp_ret ?_
        replace hS := hS.drop 0
        cases hF
        refine hQ _ _ ?_
        refine lv Try.results5 hA rfl ?_
        exact ⟨rfl, hS⟩
      replace hF := iff' hb130 hF
      refine wp_skip ?_
      refine hK118 _ _ ?_
      refine wp_seq_k fun K132 hK132 => ?_
      refine wp_reg ?_
      refine x_assign hA (fun ac hA => ?_) rfl rfl rfl rfl rfl
      refine wpList_nil ?_
      refine hK132 _ _ ?_
      refine wp_seq_k fun K133 hK133 => ?_
      have hj3 : ∀ (o159 : (Option S68)) (s160 : (List UInt8)), law05_FilesSure_j3 a0 a1 a2 o159 s160 = some y → ∀ (ac : Act) (w : World), FR 101 [] ac [(0, .slice A0 n0 c0), (1, .slice A1 n1 c1), (2, .int .i64 a2), (9, .pointer p117), (11, str s160)] → SH r (optP (obj68) p117 o159 :: L) w → K133 ac w := by
        intro o159 s160 hF ac w hA hS
        unfold law05_FilesSure_j3 at hF
        refine hK133 _ _ ?_
        refine wp_seq_k fun K161 hK161 => ?_
        refine wp_reg ?_
        refine x_move hA (fun ac hA => ?_) rfl rfl rfl rfl rfl
        refine x_move hA (fun ac hA => ?_) rfl rfl rfl rfl rfl
        refine x_bsl (d := (kI .i64)) (e := 3) (ps := #[(0, .int .i64 a2)]) (cells := [.int .i64 a2]) (xs := [a2]) (fun w => by kernel_rfl) rfl ⟨[.int .i64 a2], _, rfl, rfl, rfl⟩ hA hS (fun g162 ac w hS hA => ?_) rfl rfl rfl rfl rfl rfl
        replace hS := hS.pk 1
        obtain ⟨y163, h164, hF⟩ := bnd hF
        refine x_call en19 hA (F_files_Store_Restart (L := own (kI .i64) 3 (some ⟨g162, 0, none⟩) 1 1 [a2] :: L) o159 [a2] p117 (some ⟨g162, 0, none⟩) 1 1 h164 (RdL.own 0 rfl (hS.dropN 1)) hS) (fun v ac w hR hA => ?_) rfl rfl rfl rfl rfl
        obtain ⟨rfl, hS⟩ := hR
        refine wpList_nil ?_
        refine hK161 _ _ ?_
        refine wp_seq_k fun K165 hK165 => ?_
        refine wp_reg ?_
        refine x_move hA (fun ac hA => ?_) rfl rfl rfl rfl rfl
        refine x_assign hA (fun ac hA => ?_) rfl rfl rfl rfl rfl
        refine wpList_nil ?_
        refine hK165 _ _ ?_
        refine wp_seq_k fun K166 hK166 => ?_
        have hj4 : ∀ (x173 : Int), law05_FilesSure_j4 a0 a1 s160 y163 x173 = some y → ∀ (ac : Act) (w : World), FR 101 [] ac [(0, .slice A0 n0 c0), (1, .slice A1 n1 c1), (9, .pointer p117), (11, str s160), (12, .int .i64 x173)] → SH r (optP (obj68) p117 y163.2 :: L) w → K166 ac w := by
          intro x173 hF ac w hA hS
          unfold law05_FilesSure_j4 at hF
          refine hK166 _ _ ?_
          refine wp_seq_k fun K174 hK174 => ?_
          refine wp_reg ?_
          refine x_move hA (fun ac hA => ?_) rfl rfl rfl rfl rfl
          refine x_move hA (fun ac hA => ?_) rfl rfl rfl rfl rfl
          obtain ⟨y175, h176, hF⟩ := bnd hF
          refine x_call en13 hA (F_files_Store_Read (L := L) y163.2 s160 p117 h176 hS) (fun v ac w hR hA => ?_) rfl rfl rfl rfl rfl
          obtain ⟨B177, m178, d179, rfl, hS⟩ := hR
          refine x_move hA (fun ac hA => ?_) rfl rfl rfl rfl rfl
          refine x_val hA (r_extract rfl (hA.ev rfl) rfl) (fun ac hA => ?_) rfl rfl rfl
          refine x_val hA (r_extract rfl (hA.ev rfl) rfl) (fun ac hA => ?_) rfl rfl rfl
          refine x_assign hA (fun ac hA => ?_) rfl rfl rfl rfl rfl
          refine x_assign hA (fun ac hA => ?_) rfl rfl rfl rfl rfl
          refine wpList_nil ?_
          refine hK174 _ _ ?_
          refine wp_seq_k fun K180 hK180 => ?_
          refine wp_draw [0, 1, 3, 7, 15, 7, 39, 7, 7, 391, 903, 2023, 4095, 8191, 16383, 32767, 65535, 131071, 262143, 524287, 1048575] [16] rfl hA hS (by kernel_rfl) (by kernel_rfl) (by kernel_rfl) (by kernel_rfl) fun w hS => ?_
          refine bcase (b := y175.2 == 0) (fun hb181 => ?_) fun hb181 => ?_
          · replace hF := ift hb181 hF
            obtain ⟨l182, h183, hF⟩ := bnd hF
            have h184 := rdl_h ha1 h183
            obtain ⟨h185, hF⟩ := chk_some hF
            refine bcase (b := (bts y175.1) == ((bts a0) ++ (bts l182))) (fun hb186 => ?_) fun hb186 => ?_
            · replace hF := ift hb186 hF
              refine ⟨[(0, .int .i64 y175.2), (1, .bool (y175.2 == 0)), (2, .bool (y175.2 == 0)), (3, .slice B177 m178 d179), (4, str (bts y175.1)), (5, .slice A0 n0 c0), (6, str (bts a0)), (7, .slice A1 n1 c1), (8, .int .i64 x173), (9, .slice A1 x173.toNat c1), (10, str (bts l182)), (11, str ((bts a0) ++ (bts l182))), (12, .bool ((bts y175.1) == ((bts a0) ++ (bts l182)))), (13, .bool ((bts y175.1) == ((bts a0) ++ (bts l182)))), (14, .bool ((bts y175.1) == ((bts a0) ++ (bts l182)))), (15, .pointer p117)], ?_⟩
              refine dEff [0, 1, 2, 3, 4, 5, 6, 7, 8, 9, 10, 11, 12, 13, 14, 15] [16] (by kernel_rfl) ⟨pu rfl rfl [(14, .int .i64 y175.2)] (fun ac hA => y_move hA rfl rfl) rfl rfl, pu rfl rfl [(81, .int .i64 y175.2)] (fun ac hA => r_eqI rfl (hA.ev rfl) (hA.ev rfl)) rfl rfl, pu rfl rfl [(82, .bool (y175.2 == 0))] (fun ac hA => y_move hA rfl rfl) rfl rfl, puOn rfl rfl rfl rfl [(13, .slice B177 m178 d179), (83, .bool (y175.2 == 0))] rfl hb181 (fun ac hA => y_move hA rfl rfl) rfl, puOn rfl rfl rfl rfl [(83, .bool (y175.2 == 0)), (84, .slice B177 m178 d179)] rfl hb181 (fun ac hA => y_b2s Try.underlying22 Try.underlying5 Try.underlying9 (hS.rd 0 rfl) hA rfl rfl) rfl, puOn rfl rfl rfl rfl [(0, .slice A0 n0 c0), (83, .bool (y175.2 == 0))] rfl hb181 (fun ac hA => y_move hA rfl rfl) rfl, puOn rfl rfl rfl rfl [(83, .bool (y175.2 == 0)), (86, .slice A0 n0 c0)] rfl hb181 (fun ac hA => y_b2s Try.underlying22 Try.underlying5 Try.underlying9 (hS.rdl 2 ha0 rfl) hA rfl rfl) rfl, puOn rfl rfl rfl rfl [(1, .slice A1 n1 c1), (83, .bool (y175.2 == 0))] rfl hb181 (fun ac hA => y_move hA rfl rfl) rfl, puOn rfl rfl rfl rfl [(12, .int .i64 x173), (83, .bool (y175.2 == 0))] rfl hb181 (fun ac hA => y_move hA rfl rfl) rfl, puOn rfl rfl rfl rfl [(83, .bool (y175.2 == 0)), (88, .slice A1 n1 c1), (89, .int .i64 x173)] rfl hb181 (fun ac hA => r_slice_h Try.underlying22 sz5 rfl (hA.ev rfl) (hA.ev rfl) (cutq (hS.rdl 2 ha1 rfl) h183).2.2.2.2.1 (cutq (hS.rdl 2 ha1 rfl) h183).2.2.1) rfl, puOn rfl rfl rfl rfl [(83, .bool (y175.2 == 0)), (90, .slice A1 x173.toNat c1)] rfl hb181 (fun ac hA => y_b2s Try.underlying22 Try.underlying5 Try.underlying9 (hS.rdl 2 h184 rfl) hA rfl rfl) rfl, puOn rfl rfl rfl rfl [(83, .bool (y175.2 == 0)), (87, str (bts a0)), (91, str (bts l182))] rfl hb181 (fun ac hA => r_catS rfl (hA.ev rfl) (hA.ev rfl) h185) rfl, puOn rfl rfl rfl rfl [(83, .bool (y175.2 == 0)), (85, str (bts y175.1)), (92, str ((bts a0) ++ (bts l182)))] rfl hb181 (fun ac hA => r_eqS rfl (hA.ev rfl) (hA.ev rfl)) rfl, pu rfl rfl [(83, .bool (y175.2 == 0)), (93, .bool ((bts y175.1) == ((bts a0) ++ (bts l182))))] (fun ac hA => y_pickt hb181 hA rfl rfl rfl) rfl rfl, pu rfl rfl [(94, .bool ((bts y175.1) == ((bts a0) ++ (bts l182))))] (fun ac hA => y_move hA rfl rfl) rfl rfl, puOn rfl rfl rfl rfl [(9, .pointer p117), (95, .bool ((bts y175.1) == ((bts a0) ++ (bts l182))))] rfl hb186 (fun ac hA => y_move hA rfl rfl) rfl, trivial⟩ (by kernel_rfl) (by kernel_rfl) ⟨efOn rfl rfl rfl [(95, .bool ((bts y175.1) == ((bts a0) ++ (bts l182)))), (96, .pointer p117)] rfl hb186 (fun ac hA K hK => ?_) rfl, trivial⟩
              replace hS := hS.pk 1
              obtain ⟨y187, h188, hF⟩ := bnd hF
              refine z_call en14 hA (F_files_Store_List (L := own (kI .u8) 5 B177 m178 d179 y175.1 :: L) y163.2 p117 h188 hS) (fun v w hR => ?_) rfl rfl
              obtain ⟨B189, m190, d191, rfl, hS⟩ := hR
              refine hK _ [(17, .int .i64 (y187.length : Int)), (18, .bool ((y187.length : Int) == 1)), (19, .bool ((y187.length : Int) == 1)), (20, .bool ((y187.length : Int) == 1))] _ rfl ?_
              refine dEnd [17, 18, 19, 20] (by kernel_rfl) ⟨puOn rfl rfl rfl rfl [(95, .bool ((bts y175.1) == ((bts a0) ++ (bts l182)))), (97, .slice B189 m190 d191)] rfl hb186 (fun ac hA => y_len Try.underlying31 (hS.rd 0 rfl).2.1 hA rfl rfl) rfl, puOn rfl rfl rfl rfl [(95, .bool ((bts y175.1) == ((bts a0) ++ (bts l182)))), (98, .int .i64 (y187.length : Int))] rfl hb186 (fun ac hA => r_eqI rfl (hA.ev rfl) (hA.ev rfl)) rfl, pu rfl rfl [(95, .bool ((bts y175.1) == ((bts a0) ++ (bts l182)))), (99, .bool ((y187.length : Int) == 1))] (fun ac hA => y_pickt hb186 hA rfl rfl rfl) rfl rfl, pu rfl rfl [(100, .bool ((y187.length : Int) == 1))] (fun ac hA => y_assign hA rfl rfl) rfl rfl, trivial⟩ ⟨by kernel_rfl, by kernel_rfl⟩ [(8, .bool ((y187.length : Int) == 1))] rfl (fun ac hA => ?_)
              refine hK180 _ _ ?_
              refine wp_ret ?_
              replace hS := hS.drop 0
              replace hS := hS.drop 0
              replace hS := hS.drop 0
              cases hF
              refine hQ _ _ ?_
              refine lv Try.results5 hA rfl ?_
              exact ⟨rfl, hS⟩
            replace hF := iff' hb186 hF
            refine ⟨[(0, .int .i64 y175.2), (1, .bool (y175.2 == 0)), (2, .bool (y175.2 == 0)), (3, .slice B177 m178 d179), (4, str (bts y175.1)), (5, .slice A0 n0 c0), (6, str (bts a0)), (7, .slice A1 n1 c1), (8, .int .i64 x173), (9, .slice A1 x173.toNat c1), (10, str (bts l182)), (11, str ((bts a0) ++ (bts l182))), (12, .bool ((bts y175.1) == ((bts a0) ++ (bts l182)))), (13, .bool ((bts y175.1) == ((bts a0) ++ (bts l182)))), (14, .bool ((bts y175.1) == ((bts a0) ++ (bts l182)))), (15, undef)], ?_⟩
            refine dEff [0, 1, 2, 3, 4, 5, 6, 7, 8, 9, 10, 11, 12, 13, 14, 15] [16] (by kernel_rfl) ⟨pu rfl rfl [(14, .int .i64 y175.2)] (fun ac hA => y_move hA rfl rfl) rfl rfl, pu rfl rfl [(81, .int .i64 y175.2)] (fun ac hA => r_eqI rfl (hA.ev rfl) (hA.ev rfl)) rfl rfl, pu rfl rfl [(82, .bool (y175.2 == 0))] (fun ac hA => y_move hA rfl rfl) rfl rfl, puOn rfl rfl rfl rfl [(13, .slice B177 m178 d179), (83, .bool (y175.2 == 0))] rfl hb181 (fun ac hA => y_move hA rfl rfl) rfl, puOn rfl rfl rfl rfl [(83, .bool (y175.2 == 0)), (84, .slice B177 m178 d179)] rfl hb181 (fun ac hA => y_b2s Try.underlying22 Try.underlying5 Try.underlying9 (hS.rd 0 rfl) hA rfl rfl) rfl, puOn rfl rfl rfl rfl [(0, .slice A0 n0 c0), (83, .bool (y175.2 == 0))] rfl hb181 (fun ac hA => y_move hA rfl rfl) rfl, puOn rfl rfl rfl rfl [(83, .bool (y175.2 == 0)), (86, .slice A0 n0 c0)] rfl hb181 (fun ac hA => y_b2s Try.underlying22 Try.underlying5 Try.underlying9 (hS.rdl 2 ha0 rfl) hA rfl rfl) rfl, puOn rfl rfl rfl rfl [(1, .slice A1 n1 c1), (83, .bool (y175.2 == 0))] rfl hb181 (fun ac hA => y_move hA rfl rfl) rfl, puOn rfl rfl rfl rfl [(12, .int .i64 x173), (83, .bool (y175.2 == 0))] rfl hb181 (fun ac hA => y_move hA rfl rfl) rfl, puOn rfl rfl rfl rfl [(83, .bool (y175.2 == 0)), (88, .slice A1 n1 c1), (89, .int .i64 x173)] rfl hb181 (fun ac hA => r_slice_h Try.underlying22 sz5 rfl (hA.ev rfl) (hA.ev rfl) (cutq (hS.rdl 2 ha1 rfl) h183).2.2.2.2.1 (cutq (hS.rdl 2 ha1 rfl) h183).2.2.1) rfl, puOn rfl rfl rfl rfl [(83, .bool (y175.2 == 0)), (90, .slice A1 x173.toNat c1)] rfl hb181 (fun ac hA => y_b2s Try.underlying22 Try.underlying5 Try.underlying9 (hS.rdl 2 h184 rfl) hA rfl rfl) rfl, puOn rfl rfl rfl rfl [(83, .bool (y175.2 == 0)), (87, str (bts a0)), (91, str (bts l182))] rfl hb181 (fun ac hA => r_catS rfl (hA.ev rfl) (hA.ev rfl) h185) rfl, puOn rfl rfl rfl rfl [(83, .bool (y175.2 == 0)), (85, str (bts y175.1)), (92, str ((bts a0) ++ (bts l182)))] rfl hb181 (fun ac hA => r_eqS rfl (hA.ev rfl) (hA.ev rfl)) rfl, pu rfl rfl [(83, .bool (y175.2 == 0)), (93, .bool ((bts y175.1) == ((bts a0) ++ (bts l182))))] (fun ac hA => y_pickt hb181 hA rfl rfl rfl) rfl rfl, pu rfl rfl [(94, .bool ((bts y175.1) == ((bts a0) ++ (bts l182))))] (fun ac hA => y_move hA rfl rfl) rfl rfl, puOff rfl rfl rfl rfl [(9, .pointer p117), (95, .bool ((bts y175.1) == ((bts a0) ++ (bts l182))))] rfl hb186 rfl, trivial⟩ (by kernel_rfl) (by kernel_rfl) ⟨?_, trivial⟩
            refine efOff rfl rfl rfl [(95, .bool ((bts y175.1) == ((bts a0) ++ (bts l182)))), (96, undef)] rfl [(17, undef), (18, undef), (19, .bool false), (20, .bool false)] hb186 rfl ?_ rfl
            refine dEnd [17, 18, 19, 20] (by kernel_rfl) ⟨puOff rfl rfl rfl rfl [(95, .bool ((bts y175.1) == ((bts a0) ++ (bts l182)))), (97, undef)] rfl hb186 rfl, puOff rfl rfl rfl rfl [(95, .bool ((bts y175.1) == ((bts a0) ++ (bts l182)))), (98, undef)] rfl hb186 rfl, pu rfl rfl [(95, .bool ((bts y175.1) == ((bts a0) ++ (bts l182)))), (99, undef)] (fun ac hA => y_pickf hb186 hA rfl rfl rfl) rfl rfl, pu rfl rfl [(100, .bool false)] (fun ac hA => y_assign hA rfl rfl) rfl rfl, trivial⟩ ⟨by kernel_rfl, by kernel_rfl⟩ [(8, .bool false)] rfl (fun ac hA => ?_)
            refine hK180 _ _ ?_
            refine wp_ret ?_
            replace hS := hS.drop 0
            replace hS := hS.drop 0
            cases hF
            refine hQ _ _ ?_
            refine lv Try.results5 hA rfl ?_
            exact ⟨rfl, hS⟩
          replace hF := iff' hb181 hF
          refine ⟨[(0, .int .i64 y175.2), (1, .bool (y175.2 == 0)), (2, .bool (y175.2 == 0)), (3, undef), (4, undef), (5, undef), (6, undef), (7, undef), (8, undef), (9, undef), (10, undef), (11, undef), (12, undef), (13, .bool false), (14, .bool false), (15, undef)], ?_⟩
          refine dEff [0, 1, 2, 3, 4, 5, 6, 7, 8, 9, 10, 11, 12, 13, 14, 15] [16] (by kernel_rfl) ⟨pu rfl rfl [(14, .int .i64 y175.2)] (fun ac hA => y_move hA rfl rfl) rfl rfl, pu rfl rfl [(81, .int .i64 y175.2)] (fun ac hA => r_eqI rfl (hA.ev rfl) (hA.ev rfl)) rfl rfl, pu rfl rfl [(82, .bool (y175.2 == 0))] (fun ac hA => y_move hA rfl rfl) rfl rfl, puOff rfl rfl rfl rfl [(13, .slice B177 m178 d179), (83, .bool (y175.2 == 0))] rfl hb181 rfl, puOff rfl rfl rfl rfl [(83, .bool (y175.2 == 0)), (84, undef)] rfl hb181 rfl, puOff rfl rfl rfl rfl [(0, .slice A0 n0 c0), (83, .bool (y175.2 == 0))] rfl hb181 rfl, puOff rfl rfl rfl rfl [(83, .bool (y175.2 == 0)), (86, undef)] rfl hb181 rfl, puOff rfl rfl rfl rfl [(1, .slice A1 n1 c1), (83, .bool (y175.2 == 0))] rfl hb181 rfl, puOff rfl rfl rfl rfl [(12, .int .i64 x173), (83, .bool (y175.2 == 0))] rfl hb181 rfl, puOff rfl rfl rfl rfl [(83, .bool (y175.2 == 0)), (88, undef), (89, undef)] rfl hb181 rfl, puOff rfl rfl rfl rfl [(83, .bool (y175.2 == 0)), (90, undef)] rfl hb181 rfl, puOff rfl rfl rfl rfl [(83, .bool (y175.2 == 0)), (87, undef), (91, undef)] rfl hb181 rfl, puOff rfl rfl rfl rfl [(83, .bool (y175.2 == 0)), (85, undef), (92, undef)] rfl hb181 rfl, pu rfl rfl [(83, .bool (y175.2 == 0)), (93, undef)] (fun ac hA => y_pickf hb181 hA rfl rfl rfl) rfl rfl, pu rfl rfl [(94, .bool false)] (fun ac hA => y_move hA rfl rfl) rfl rfl, puOff rfl rfl rfl rfl [(9, .pointer p117), (95, .bool false)] rfl rfl rfl, trivial⟩ (by kernel_rfl) (by kernel_rfl) ⟨?_, trivial⟩
          refine efOff rfl rfl rfl [(95, .bool false), (96, undef)] rfl [(17, undef), (18, undef), (19, .bool false), (20, .bool false)] rfl rfl ?_ rfl
          refine dEnd [17, 18, 19, 20] (by kernel_rfl) ⟨puOff rfl rfl rfl rfl [(95, .bool false), (97, undef)] rfl rfl rfl, puOff rfl rfl rfl rfl [(95, .bool false), (98, undef)] rfl rfl rfl, pu rfl rfl [(95, .bool false), (99, undef)] (fun ac hA => y_pickf rfl hA rfl rfl rfl) rfl rfl, pu rfl rfl [(100, .bool false)] (fun ac hA => y_assign hA rfl rfl) rfl rfl, trivial⟩ ⟨by kernel_rfl, by kernel_rfl⟩ [(8, .bool false)] rfl (fun ac hA => ?_)
          refine hK180 _ _ ?_
          refine wp_ret ?_
          replace hS := hS.drop 0
          replace hS := hS.drop 0
          cases hF
          refine hQ _ _ ?_
          refine lv Try.results5 hA rfl ?_
          exact ⟨rfl, hS⟩
        refine wp_seq_k fun K192 hK192 => ?_
        have hj5 : ∀ (b194 : Bool), law05_FilesSure_j5 a0 a1 a2 s160 y163 b194 = some y → ∀ (ac : Act) (w : World), FR 101 [] ac [(0, .slice A0 n0 c0), (1, .slice A1 n1 c1), (9, .pointer p117), (11, str s160), (12, .int .i64 a2), (72, .bool b194)] → SH r (optP (obj68) p117 y163.2 :: L) w → K192 ac w := by
          intro b194 hF ac w hA hS
          unfold law05_FilesSure_j5 at hF
          refine hK192 _ _ ?_
          refine c_if hA rfl (fun hb195 => ?_) fun hb195 => ?_
          · replace hF := ift hb195 hF
            refine wp_reg ?_
            refine x_move hA (fun ac hA => ?_) rfl rfl rfl rfl rfl
            refine x_len Try.underlying22 (hS.rdl 1 ha1 rfl).2.1 hA (fun ac hA => ?_) rfl rfl rfl rfl rfl
            refine x_assign hA (fun ac hA => ?_) rfl rfl rfl rfl rfl
            refine wpList_nil ?_
            exact hj4 (a1.length : Int) hF ac w (hA.sub _ rfl) hS
          replace hF := iff' hb195 hF
          refine wp_skip ?_
          exact hj4 a2 hF ac w (hA.sub _ rfl) hS
        refine wp_reg ?_
        refine x_move hA (fun ac hA => ?_) rfl rfl rfl rfl rfl
        refine x_val hA (r_ltI rfl (hA.ev rfl) (hA.ev rfl)) (fun ac hA => ?_) rfl rfl rfl
        refine x_move hA (fun ac hA => ?_) rfl rfl rfl rfl rfl
        refine bcase (b := decide (a2 < 0)) (fun hb196 => ?_) fun hb196 => ?_
        · replace hF := ift hb196 hF
          refine x_off hb196 hA (fun ac hA => ?_) rfl rfl rfl rfl rfl
          refine x_off hb196 hA (fun ac hA => ?_) rfl rfl rfl rfl rfl
          refine x_off hb196 hA (fun ac hA => ?_) rfl rfl rfl rfl rfl
          refine x_off hb196 hA (fun ac hA => ?_) rfl rfl rfl rfl rfl
          refine x_pickt hb196 hA (fun ac hA => ?_) rfl rfl rfl rfl rfl rfl
          refine wpList_nil ?_
          replace hS := hS.drop 1
          exact hj5 true hF ac w (hA.sub _ rfl) hS
        replace hF := iff' hb196 hF
        refine x_on hb196 hA ?_ rfl rfl rfl
        refine x_move hA (fun ac hA => ?_) rfl rfl rfl rfl rfl
        refine x_on hb196 hA ?_ rfl rfl rfl
        refine x_move hA (fun ac hA => ?_) rfl rfl rfl rfl rfl
        refine x_on hb196 hA ?_ rfl rfl rfl
        refine x_len Try.underlying22 (hS.rdl 2 ha1 rfl).2.1 hA (fun ac hA => ?_) rfl rfl rfl rfl rfl
        refine x_on hb196 hA ?_ rfl rfl rfl
        refine x_val hA (r_gtI rfl (hA.ev rfl) (hA.ev rfl)) (fun ac hA => ?_) rfl rfl rfl
        refine x_pickf hb196 hA (fun ac hA => ?_) rfl rfl rfl rfl rfl rfl
        refine wpList_nil ?_
        replace hS := hS.drop 1
        exact hj5 (decide ((a1.length : Int) < a2)) hF ac w (hA.sub _ rfl) hS
      refine wp_seq_k fun K197 hK197 => ?_
      refine wp_reg ?_
      refine x_move hA (fun ac hA => ?_) rfl rfl rfl rfl rfl
      refine wpList_nil ?_
      refine hK197 _ _ ?_
      refine c_if hA rfl (fun hb198 => ?_) fun hb198 => ?_
      · replace hF := ift hb198 hF
        refine wp_seq_k fun K199 hK199 => ?_
        refine wp_reg ?_
        refine x_assign hA (fun ac hA => ?_) rfl rfl rfl rfl rfl
        refine wpList_nil ?_
        refine hK199 _ _ ?_
        refine wp_seq_k fun K200 hK200 => ?_
        have hj6 : ∀ (o209 : (Option S68)) (b210 : Bool), law05_FilesSure_j6 a0 a1 a2 o209 b210 = some y → ∀ (ac : Act) (w : World), FR 101 [] ac [(0, .slice A0 n0 c0), (1, .slice A1 n1 c1), (2, .int .i64 a2), (9, .pointer p117), (11, str [98]), (59, .bool b210)] → SH r (optP (obj68) p117 o209 :: L) w → K200 ac w := by
          intro o209 b210 hF ac w hA hS
          unfold law05_FilesSure_j6 at hF
          refine hK200 _ _ ?_
          refine c_if hA rfl (fun hb211 => ?_) fun hb211 => ?_
          · replace hF := ift hb211 hF
            refine wp_seq_k fun K212 hK212 => ?_
            refine wp_reg ?_
            refine x_assign hA (fun ac hA => ?_) rfl rfl rfl rfl rfl
            refine wpList_nil ?_
            refine hK212 _ _ ?_
            refine wp_ret ?_
            replace hS := hS.drop 0
            cases hF
            refine hQ _ _ ?_
            refine lv Try.results5 hA rfl ?_
            exact ⟨rfl, hS⟩
          replace hF := iff' hb211 hF
          refine wp_skip ?_
          exact hj3 o209 [98] hF ac w (hA.sub _ rfl) hS
        refine wp_reg ?_
        refine x_move hA (fun ac hA => ?_) rfl rfl rfl rfl rfl
        refine x_move hA (fun ac hA => ?_) rfl rfl rfl rfl rfl
        obtain ⟨y213, h214, hF⟩ := bnd hF
        refine x_call en12 hA (F_files_Store_Append (L := L) o128 [98] a1 p117 A1 n1 c1 h214 (RdL.sfx 0 rfl ha1) hS) (fun v ac w hR hA => ?_) rfl rfl rfl rfl rfl
        obtain ⟨rfl, hS⟩ := hR
        refine x_val hA (r_neI rfl (hA.ev rfl) (hA.ev rfl)) (fun ac hA => ?_) rfl rfl rfl
        refine x_move hA (fun ac hA => ?_) rfl rfl rfl rfl rfl
        refine bcase (b := y213.1 != 0) (fun hb215 => ?_) fun hb215 => ?_
        · replace hF := ift hb215 hF
          refine x_off hb215 hA (fun ac hA => ?_) rfl rfl rfl rfl rfl
          refine x_off hb215 hA (fun ac hA => ?_) rfl rfl rfl rfl rfl
          refine x_off hb215 hA (fun ac hA => ?_) rfl rfl rfl rfl rfl
          refine x_pickt hb215 hA (fun ac hA => ?_) rfl rfl rfl rfl rfl rfl
          refine x_move hA (fun ac hA => ?_) rfl rfl rfl rfl rfl
          refine x_off rfl hA (fun ac hA => ?_) rfl rfl rfl rfl rfl
          refine x_off rfl hA (fun ac hA => ?_) rfl rfl rfl rfl rfl
          refine x_off rfl hA (fun ac hA => ?_) rfl rfl rfl rfl rfl
          refine x_pickt rfl hA (fun ac hA => ?_) rfl rfl rfl rfl rfl rfl
          refine wpList_nil ?_
          exact hj6 y213.2 true hF ac w (hA.sub _ rfl) hS
        replace hF := iff' hb215 hF
        refine x_on hb215 hA ?_ rfl rfl rfl
        refine x_move hA (fun ac hA => ?_) rfl rfl rfl rfl rfl
        refine x_on hb215 hA ?_ rfl rfl rfl
        obtain ⟨y216, h217, hF⟩ := bnd hF
        refine x_call en17 hA (F_files_Store_Sync (L := L) y213.2 [98] p117 h217 hS) (fun v ac w hR hA => ?_) rfl rfl rfl rfl rfl
        obtain ⟨rfl, hS⟩ := hR
        refine x_on hb215 hA ?_ rfl rfl rfl
        refine x_val hA (r_neI rfl (hA.ev rfl) (hA.ev rfl)) (fun ac hA => ?_) rfl rfl rfl
        refine x_pickf hb215 hA (fun ac hA => ?_) rfl rfl rfl rfl rfl rfl
        refine x_move hA (fun ac hA => ?_) rfl rfl rfl rfl rfl
        refine bcase (b := y216.1 != 0) (fun hb218 => ?_) fun hb218 => ?_
        · replace hF := ift hb218 hF
          refine x_off hb218 hA (fun ac hA => ?_) rfl rfl rfl rfl rfl
          refine x_off hb218 hA (fun ac hA => ?_) rfl rfl rfl rfl rfl
          refine x_off hb218 hA (fun ac hA => ?_) rfl rfl rfl rfl rfl
          refine x_pickt hb218 hA (fun ac hA => ?_) rfl rfl rfl rfl rfl rfl
          refine wpList_nil ?_
          exact hj6 y216.2 true hF ac w (hA.sub _ rfl) hS
        replace hF := iff' hb218 hF
        refine x_on hb218 hA ?_ rfl rfl rfl
        refine x_move hA (fun ac hA => ?_) rfl rfl rfl rfl rfl
        refine x_on hb218 hA ?_ rfl rfl rfl
        obtain ⟨y219, h220, hF⟩ := bnd hF
        refine x_call en18 hA (F_files_Store_Rename (L := L) y216.2 [97] [98] p117 h220 hS) (fun v ac w hR hA => ?_) rfl rfl rfl rfl rfl
        obtain ⟨rfl, hS⟩ := hR
        refine x_on hb218 hA ?_ rfl rfl rfl
        refine x_val hA (r_neI rfl (hA.ev rfl) (hA.ev rfl)) (fun ac hA => ?_) rfl rfl rfl
        refine x_pickf hb218 hA (fun ac hA => ?_) rfl rfl rfl rfl rfl rfl
        refine wpList_nil ?_
        exact hj6 y219.2 (y219.1 != 0) hF ac w (hA.sub _ rfl) hS
      replace hF := iff' hb198 hF
      refine wp_skip ?_
      exact hj3 o128 [97] hF ac w (hA.sub _ rfl) hS
    refine wp_reg ?_
    refine x_move hA (fun ac hA => ?_) rfl rfl rfl rfl rfl
    refine x_move hA (fun ac hA => ?_) rfl rfl rfl rfl rfl
    obtain ⟨y221, h222, hF⟩ := bnd hF
    refine x_call en12 hA (F_files_Store_Append (L := L) y115.1 [97] a0 p117 A0 n0 c0 h222 (RdL.sfx 0 rfl ha0) hS) (fun v ac w hR hA => ?_) rfl rfl rfl rfl rfl
    obtain ⟨rfl, hS⟩ := hR
    refine x_val hA (r_neI rfl (hA.ev rfl) (hA.ev rfl)) (fun ac hA => ?_) rfl rfl rfl
    refine x_move hA (fun ac hA => ?_) rfl rfl rfl rfl rfl
    refine bcase (b := y221.1 != 0) (fun hb223 => ?_) fun hb223 => ?_
    · replace hF := ift hb223 hF
      refine x_off hb223 hA (fun ac hA => ?_) rfl rfl rfl rfl rfl
      refine x_off hb223 hA (fun ac hA => ?_) rfl rfl rfl rfl rfl
      refine x_off hb223 hA (fun ac hA => ?_) rfl rfl rfl rfl rfl
      refine x_pickt hb223 hA (fun ac hA => ?_) rfl rfl rfl rfl rfl rfl
      refine x_move hA (fun ac hA => ?_) rfl rfl rfl rfl rfl
      refine x_off rfl hA (fun ac hA => ?_) rfl rfl rfl rfl rfl
      refine x_off rfl hA (fun ac hA => ?_) rfl rfl rfl rfl rfl
      refine x_off rfl hA (fun ac hA => ?_) rfl rfl rfl rfl rfl
      refine x_off rfl hA (fun ac hA => ?_) rfl rfl rfl rfl rfl
      refine x_pickt rfl hA (fun ac hA => ?_) rfl rfl rfl rfl rfl rfl
      refine wpList_nil ?_
      exact hj2 y221.2 true hF ac w (hA.sub _ rfl) hS
    replace hF := iff' hb223 hF
    refine x_on hb223 hA ?_ rfl rfl rfl
    refine x_move hA (fun ac hA => ?_) rfl rfl rfl rfl rfl
    refine x_on hb223 hA ?_ rfl rfl rfl
    obtain ⟨y224, h225, hF⟩ := bnd hF
    refine x_call en17 hA (F_files_Store_Sync (L := L) y221.2 [97] p117 h225 hS) (fun v ac w hR hA => ?_) rfl rfl rfl rfl rfl
    obtain ⟨rfl, hS⟩ := hR
    refine x_on hb223 hA ?_ rfl rfl rfl
    refine x_val hA (r_neI rfl (hA.ev rfl) (hA.ev rfl)) (fun ac hA => ?_) rfl rfl rfl
    refine x_pickf hb223 hA (fun ac hA => ?_) rfl rfl rfl rfl rfl rfl
    refine x_move hA (fun ac hA => ?_) rfl rfl rfl rfl rfl
    refine bcase (b := y224.1 != 0) (fun hb226 => ?_) fun hb226 => ?_
    · replace hF := ift hb226 hF
      refine x_off hb226 hA (fun ac hA => ?_) rfl rfl rfl rfl rfl
      refine x_off hb226 hA (fun ac hA => ?_) rfl rfl rfl rfl rfl
      refine x_off hb226 hA (fun ac hA => ?_) rfl rfl rfl rfl rfl
      refine x_off hb226 hA (fun ac hA => ?_) rfl rfl rfl rfl rfl
      refine x_pickt hb226 hA (fun ac hA => ?_) rfl rfl rfl rfl rfl rfl
      refine wpList_nil ?_
      exact hj2 y224.2 true hF ac w (hA.sub _ rfl) hS
    replace hF := iff' hb226 hF
    refine x_on hb226 hA ?_ rfl rfl rfl
    refine x_move hA (fun ac hA => ?_) rfl rfl rfl rfl rfl
    refine x_on hb226 hA ?_ rfl rfl rfl
    refine x_move hA (fun ac hA => ?_) rfl rfl rfl rfl rfl
    refine x_on hb226 hA ?_ rfl rfl rfl
    obtain ⟨y227, h228, hF⟩ := bnd hF
    refine x_call en12 hA (F_files_Store_Append (L := L) y224.2 [97] a1 p117 A1 n1 c1 h228 (RdL.sfx 0 rfl ha1) hS) (fun v ac w hR hA => ?_) rfl rfl rfl rfl rfl
    obtain ⟨rfl, hS⟩ := hR
    refine x_on hb226 hA ?_ rfl rfl rfl
    refine x_val hA (r_neI rfl (hA.ev rfl) (hA.ev rfl)) (fun ac hA => ?_) rfl rfl rfl
    refine x_pickf hb226 hA (fun ac hA => ?_) rfl rfl rfl rfl rfl rfl
    refine wpList_nil ?_
    exact hj2 y227.2 (y227.1 != 0) hF ac w (hA.sub _ rfl) hS
  refine wp_reg ?_
  obtain ⟨y229, h230, hF⟩ := bnd hF
  refine x_call en10 hA (F_law05_awake (L := L) h230 hS) (fun v ac w hR hA => ?_) rfl rfl rfl rfl rfl
  obtain ⟨rfl, hS⟩ := hR
  refine x_val hA (r_not rfl (hA.ev rfl)) (fun ac hA => ?_) rfl rfl rfl
  refine x_move hA (fun ac hA => ?_) rfl rfl rfl rfl rfl
  refine bcase (b := !y229) (fun hb231 => ?_) fun hb231 => ?_
  · replace hF := ift hb231 hF
    refine x_off hb231 hA (fun ac hA => ?_) rfl rfl rfl rfl rfl
    refine x_off hb231 hA (fun ac hA => ?_) rfl rfl rfl rfl rfl
    refine x_off hb231 hA (fun ac hA => ?_) rfl rfl rfl rfl rfl
    refine x_off hb231 hA (fun ac hA => ?_) rfl rfl rfl rfl rfl
    refine x_off hb231 hA (fun ac hA => ?_) rfl rfl rfl rfl rfl
    refine x_off hb231 hA (fun ac hA => ?_) rfl rfl rfl rfl rfl
    refine x_pickt hb231 hA (fun ac hA => ?_) rfl rfl rfl rfl rfl rfl
    refine wpList_nil ?_
    exact hj1 true hF ac w (hA.sub _ rfl) hS
  replace hF := iff' hb231 hF
  refine x_on hb231 hA ?_ rfl rfl rfl
  refine x_move hA (fun ac hA => ?_) rfl rfl rfl rfl rfl
  refine x_on hb231 hA ?_ rfl rfl rfl
  refine x_len Try.underlying22 (hS.rdl 0 ha0 rfl).2.1 hA (fun ac hA => ?_) rfl rfl rfl rfl rfl
  refine x_on hb231 hA ?_ rfl rfl rfl
  refine x_move hA (fun ac hA => ?_) rfl rfl rfl rfl rfl
  refine x_on hb231 hA ?_ rfl rfl rfl
  refine x_len Try.underlying22 (hS.rdl 0 ha1 rfl).2.1 hA (fun ac hA => ?_) rfl rfl rfl rfl rfl
  refine x_on hb231 hA ?_ rfl rfl rfl
  obtain ⟨x232, h233, hF⟩ := ltt_ hF
  refine x_val (v := .int .i64 x232) hA (rv_i h233 (r_add rfl (hA.ev rfl) (hA.ev rfl))) (fun ac hA => ?_) rfl rfl rfl
  refine x_on hb231 hA ?_ rfl rfl rfl
  refine x_val hA (r_gtI rfl (hA.ev rfl) (hA.ev rfl)) (fun ac hA => ?_) rfl rfl rfl
  refine x_pickf hb231 hA (fun ac hA => ?_) rfl rfl rfl rfl rfl rfl
  refine wpList_nil ?_
  exact hj1 (decide (1000 < x232)) hF ac w (hA.sub _ rfl) hS

set_option maxHeartbeats 4000000 in
theorem F_law05_FilesArms {r : World} {L : List HP} {w : World} (a0 : Int) (a1 : (List Int)) (A1 : Option Addr) (n1 : Nat) (c1 : Nat) {y : (Bool)} (hF : law05_FilesArms a0 a1 = some y) (ha1 : RdL L (kI .u8) A1 n1 c1 a1) (hS : SH r (L) w) :
    Ret Try.prog 7 #[.int .u8 a0, .slice A1 n1 c1] w fun v w' => v = .bool y ∧ SH r (L) w' := by
  refine enter Try.func7 rfl Try.ntmps7 [(0, .int .u8 a0), (1, .slice A1 n1 c1)] rfl (by simp) ?_
  intro ac hA Qf hQ hQn
  unfold law05_FilesArms at hF
  refine wp_seq_k fun K101 hK101 => ?_
  refine wp_reg ?_
  refine x_assign hA (fun ac hA => ?_) rfl rfl rfl rfl rfl
  refine wpList_nil ?_
  refine hK101 _ _ ?_
  refine wp_seq_k fun K102 hK102 => ?_
  refine wp_seq_k fun K103 hK103 => ?_
  refine wp_reg ?_
  obtain ⟨y104, h105, hF⟩ := bnd hF
  refine x_call en10 hA (F_law05_awake (L := L) h105 hS) (fun v ac w hR hA => ?_) rfl rfl rfl rfl rfl
  obtain ⟨rfl, hS⟩ := hR
  refine x_val hA (r_not rfl (hA.ev rfl)) (fun ac hA => ?_) rfl rfl rfl
  refine wpList_nil ?_
  refine hK103 _ _ ?_
  refine c_if hA rfl (fun hb106 => ?_) fun hb106 => ?_
  · replace hF := ift hb106 hF
    refine wp_seq_k fun K107 hK107 => ?_
    refine wp_reg ?_
    refine x_assign hA (fun ac hA => ?_) rfl rfl rfl rfl rfl
    refine wpList_nil ?_
    refine hK107 _ _ ?_
    refine wp_ret ?_
    cases hF
    refine hQ _ _ ?_
    refine lv Try.results7 hA rfl ?_
    exact ⟨rfl, hS⟩
  replace hF := iff' hb106 hF
  refine wp_skip ?_
  refine hK102 _ _ ?_
  refine wp_seq_k fun K108 hK108 => ?_
  refine wp_reg ?_
  obtain ⟨y109, h110, hF⟩ := bnd hF
  refine x_call en11 hA (F_files_New (L := L) 5000 h110 hS) (fun v ac w hR hA => ?_) rfl rfl rfl rfl rfl
  obtain ⟨p111, rfl, hS⟩ := hR
  refine x_move hA (fun ac hA => ?_) rfl rfl rfl rfl rfl
  refine x_val hA (r_extract rfl (hA.ev rfl) rfl) (fun ac hA => ?_) rfl rfl rfl
  refine x_val hA (r_extract rfl (hA.ev rfl) rfl) (fun ac hA => ?_) rfl rfl rfl
  refine x_assign hA (fun ac hA => ?_) rfl rfl rfl rfl rfl
  refine x_assign hA (fun ac hA => ?_) rfl rfl rfl rfl rfl
  refine wpList_nil ?_
  refine hK108 _ _ ?_
  refine wp_seq_k fun K112 hK112 => ?_
  refine wp_reg ?_
  refine x_move hA (fun ac hA => ?_) rfl rfl rfl rfl rfl
  refine x_bsl (d := (kI .u8)) (e := 5) (ps := #[(0, .int .u8 120)]) (cells := [.int .u8 120]) (xs := [120]) (fun w => by kernel_rfl) rfl ⟨[.int .u8 120], _, rfl, rfl, rfl⟩ hA hS (fun g113 ac w hS hA => ?_) rfl rfl rfl rfl rfl rfl
  replace hS := own_ownm (by decide) hS
  refine x_cvM 0 Try.underlying22 Try.underlying5 hA hS rfl (fun  ac w hS hA => ?_) rfl rfl rfl rfl rfl
  replace hS := hS.pk 1
  obtain ⟨y114, h115, hF⟩ := bnd hF
  refine x_call en12 hA (F_files_Store_Append (L := ownm 5 (some ⟨g113, 0, none⟩) 1 1 [120] :: L) y109.1 [97] [120] p111 (some ⟨g113, 0, none⟩) 1 1 h115 (RdL.ownm 0 rfl (hS.dropN 1)) hS) (fun v ac w hR hA => ?_) rfl rfl rfl rfl rfl
  obtain ⟨rfl, hS⟩ := hR
  refine wpList_nil ?_
  refine hK112 _ _ ?_
  refine wp_seq_k fun K116 hK116 => ?_
  refine wp_reg ?_
  refine x_move hA (fun ac hA => ?_) rfl rfl rfl rfl rfl
  obtain ⟨x117, h118, hF⟩ := ltt_ hF
  refine x_val (v := .int .i64 x117) hA (rv_i h118 (r_convI Try.underlying5 Try.underlying3 rfl (hA.ev rfl))) (fun ac hA => ?_) rfl rfl rfl
  obtain ⟨x119, h120, hF⟩ := ltt_ hF
  refine x_val (v := .int .i64 x119) hA (rv_i h120 (r_rem rfl (hA.ev rfl) (hA.ev rfl) (by decide))) (fun ac hA => ?_) rfl rfl rfl
  obtain ⟨x121, h122, hF⟩ := ltt_ hF
  refine x_val (v := .int .i64 x121) hA (rv_i h122 (r_add rfl (hA.ev rfl) (hA.ev rfl))) (fun ac hA => ?_) rfl rfl rfl
  refine x_assign hA (fun ac hA => ?_) rfl rfl rfl rfl rfl
  refine wpList_nil ?_
  refine hK116 _ _ ?_
  refine wp_seq_k fun K123 hK123 => ?_
  refine wp_seq_k fun K124 hK124 => ?_
  refine wp_reg ?_
  refine x_move hA (fun ac hA => ?_) rfl rfl rfl rfl rfl
  refine x_move hA (fun ac hA => ?_) rfl rfl rfl rfl rfl
  obtain ⟨y125, h126, hF⟩ := bnd hF
  refine x_call en22 hA (F_files_Store_Arm (L := ownm 5 (some ⟨g113, 0, none⟩) 1 1 [120] :: L) y114.2 x121 p111 h126 hS) (fun v ac w hR hA => ?_) rfl rfl rfl rfl rfl
  obtain ⟨rfl, hS⟩ := hR
  refine x_val hA (r_neI rfl (hA.ev rfl) (hA.ev rfl)) (fun ac hA => ?_) rfl rfl rfl
  refine wpList_nil ?_
  refine hK124 _ _ ?_
  refine c_if hA rfl (fun hb127 => ?_) fun hb127 => ?_
  · replace hF := ift hb127 hF
    refine wp_seq_k fun K128 hK128 => ?_
    refine wp_reg ?_
    refine x_assign hA (fun ac hA => ?_) rfl rfl rfl rfl rfl
    refine wpList_nil ?_
    refine hK128 _ _ ?_
    refine wp_ret ?_
    replace hS := hS.drop 0
    replace hS := hS.drop 0
    cases hF
    refine hQ _ _ ?_
    refine lv Try.results7 hA rfl ?_
    exact ⟨rfl, hS⟩
  replace hF := iff' hb127 hF
  refine wp_skip ?_
  refine hK123 _ _ ?_
  refine wp_seq_k fun K129 hK129 => ?_
  refine wp_seq_k fun K726 hK726 => ?_
  refine wp_reg ?_
  refine x_assign hA (fun ac hA => ?_) rfl rfl rfl rfl rfl
  refine wpList_nil ?_
  refine hK726 _ _ ?_
  refine wp_block_k fun Kx727 hKx727 => ?_
  have hb1 : ∀ (o1026 : (Option S68)), law05_FilesArms_b1 o1026 = some y → ∀ (ac : Act) (w : World), FR 110 [] ac [(5, .pointer p111)] → SH r (optP (obj68) p111 o1026 :: L) w → Kx727 ac w := by
    intro o1026 hF ac w hA hS
    unfold law05_FilesArms_b1 at hF
    refine hKx727 _ _ ?_
    refine hK129 _ _ ?_
    refine wp_seq_k fun K1027 hK1027 => ?_
    refine wp_reg ?_
    refine x_move hA (fun ac hA => ?_) rfl rfl rfl rfl rfl
    obtain ⟨y1028, h1029, hF⟩ := bnd hF
    refine x_call en13 hA (F_files_Store_Read (L := L) o1026 [97] p111 h1029 hS) (fun v ac w hR hA => ?_) rfl rfl rfl rfl rfl
    obtain ⟨B1030, m1031, d1032, rfl, hS⟩ := hR
    refine x_move hA (fun ac hA => ?_) rfl rfl rfl rfl rfl
    refine x_val hA (r_extract rfl (hA.ev rfl) rfl) (fun ac hA => ?_) rfl rfl rfl
    refine x_val hA (r_extract rfl (hA.ev rfl) rfl) (fun ac hA => ?_) rfl rfl rfl
    refine x_assign hA (fun ac hA => ?_) rfl rfl rfl rfl rfl
    refine x_assign hA (fun ac hA => ?_) rfl rfl rfl rfl rfl
    refine wpList_nil ?_
    refine hK1027 _ _ ?_
    refine wp_seq_k fun K1033 hK1033 => ?_
    refine wp_reg ?_
    refine x_move hA (fun ac hA => ?_) rfl rfl rfl rfl rfl
    refine x_val hA (r_eqI rfl (hA.ev rfl) (hA.ev rfl)) (fun ac hA => ?_) rfl rfl rfl
    refine x_move hA (fun ac hA => ?_) rfl rfl rfl rfl rfl
    refine bcase (b := y1028.2 == 9) (fun hb1034 => ?_) fun hb1034 => ?_
    · replace hF := ift hb1034 hF
      refine x_on hb1034 hA ?_ rfl rfl rfl
      refine x_move hA (fun ac hA => ?_) rfl rfl rfl rfl rfl
      refine x_on hb1034 hA ?_ rfl rfl rfl
      replace hS := hS.pk 1
      obtain ⟨y1035, h1036, hF⟩ := bnd hF
      refine x_call en12 hA (F_files_Store_Append (L := own (kI .u8) 5 B1030 m1031 d1032 y1028.1 :: L) o1026 [97] [] p111 none 0 0 h1036 RdL.nil hS) (fun v ac w hR hA => ?_) rfl rfl rfl rfl rfl
      obtain ⟨rfl, hS⟩ := hR
      refine x_on hb1034 hA ?_ rfl rfl rfl
      refine x_val hA (r_eqI rfl (hA.ev rfl) (hA.ev rfl)) (fun ac hA => ?_) rfl rfl rfl
      refine x_pickt hb1034 hA (fun ac hA => ?_) rfl rfl rfl rfl rfl rfl
      refine x_move hA (fun ac hA => ?_) rfl rfl rfl rfl rfl
      refine bcase (b := y1035.1 == 9) (fun hb1037 => ?_) fun hb1037 => ?_
      · replace hF := ift hb1037 hF
        refine x_on hb1037 hA ?_ rfl rfl rfl
        refine x_move hA (fun ac hA => ?_) rfl rfl rfl rfl rfl
        refine x_on hb1037 hA ?_ rfl rfl rfl
        obtain ⟨y1038, h1039, hF⟩ := bnd hF
        refine x_call en17 hA (F_files_Store_Sync (L := own (kI .u8) 5 B1030 m1031 d1032 y1028.1 :: L) y1035.2 [97] p111 h1039 hS) (fun v ac w hR hA => ?_) rfl rfl rfl rfl rfl
        obtain ⟨rfl, hS⟩ := hR
        refine x_on hb1037 hA ?_ rfl rfl rfl
        refine x_val hA (r_eqI rfl (hA.ev rfl) (hA.ev rfl)) (fun ac hA => ?_) rfl rfl rfl
        refine x_pickt hb1037 hA (fun ac hA => ?_) rfl rfl rfl rfl rfl rfl
        refine x_move hA (fun ac hA => ?_) rfl rfl rfl rfl rfl
        refine bcase (b := y1038.1 == 9) (fun hb1040 => ?_) fun hb1040 => ?_
        · replace hF := ift hb1040 hF
          refine x_on hb1040 hA ?_ rfl rfl rfl
          refine x_move hA (fun ac hA => ?_) rfl rfl rfl rfl rfl
          refine x_on hb1040 hA ?_ rfl rfl rfl
          obtain ⟨y1041, h1042, hF⟩ := bnd hF
          refine x_call en15 hA (F_files_Store_Delete (L := own (kI .u8) 5 B1030 m1031 d1032 y1028.1 :: L) y1038.2 [97] p111 h1042 hS) (fun v ac w hR hA => ?_) rfl rfl rfl rfl rfl
          obtain ⟨rfl, hS⟩ := hR
          refine x_on hb1040 hA ?_ rfl rfl rfl
          refine x_val hA (r_eqI rfl (hA.ev rfl) (hA.ev rfl)) (fun ac hA => ?_) rfl rfl rfl
          refine x_pickt hb1040 hA (fun ac hA => ?_) rfl rfl rfl rfl rfl rfl
          refine x_move hA (fun ac hA => ?_) rfl rfl rfl rfl rfl
          refine bcase (b := y1041.1 == 9) (fun hb1043 => ?_) fun hb1043 => ?_
          · replace hF := ift hb1043 hF
            refine x_on hb1043 hA ?_ rfl rfl rfl
            refine x_move hA (fun ac hA => ?_) rfl rfl rfl rfl rfl
            refine x_on hb1043 hA ?_ rfl rfl rfl
            obtain ⟨y1044, h1045, hF⟩ := bnd hF
            refine x_call en18 hA (F_files_Store_Rename (L := own (kI .u8) 5 B1030 m1031 d1032 y1028.1 :: L) y1041.2 [97] [98] p111 h1045 hS) (fun v ac w hR hA => ?_) rfl rfl rfl rfl rfl
            obtain ⟨rfl, hS⟩ := hR
            refine x_on hb1043 hA ?_ rfl rfl rfl
            refine x_val hA (r_eqI rfl (hA.ev rfl) (hA.ev rfl)) (fun ac hA => ?_) rfl rfl rfl
            refine x_pickt hb1043 hA (fun ac hA => ?_) rfl rfl rfl rfl rfl rfl
            refine x_move hA (fun ac hA => ?_) rfl rfl rfl rfl rfl
            refine bcase (b := y1044.1 == 9) (fun hb1046 => ?_) fun hb1046 => ?_
            · replace hF := ift hb1046 hF
              refine x_on hb1046 hA ?_ rfl rfl rfl
              refine x_move hA (fun ac hA => ?_) rfl rfl rfl rfl rfl
              refine x_on hb1046 hA ?_ rfl rfl rfl
              obtain ⟨y1047, h1048, hF⟩ := bnd hF
              refine x_call en19 hA (F_files_Store_Restart (L := own (kI .u8) 5 B1030 m1031 d1032 y1028.1 :: L) y1044.2 [] p111 none 0 0 h1048 RdL.nil hS) (fun v ac w hR hA => ?_) rfl rfl rfl rfl rfl
              obtain ⟨rfl, hS⟩ := hR
              refine x_on hb1046 hA ?_ rfl rfl rfl
              refine x_val hA (r_eqI rfl (hA.ev rfl) (hA.ev rfl)) (fun ac hA => ?_) rfl rfl rfl
              refine x_pickt hb1046 hA (fun ac hA => ?_) rfl rfl rfl rfl rfl rfl
              refine x_move hA (fun ac hA => ?_) rfl rfl rfl rfl rfl
              refine bcase (b := y1047.1 == 0) (fun hb1049 => ?_) fun hb1049 => ?_
              · replace hF := ift hb1049 hF
                refine x_on hb1049 hA ?_ rfl rfl rfl
                refine x_move hA (fun ac hA => ?_) rfl rfl rfl rfl rfl
                refine x_on hb1049 hA ?_ rfl rfl rfl
                obtain ⟨y1050, h1051, hF⟩ := bnd hF
                refine x_call en23 hA (F_files_Store_On (L := own (kI .u8) 5 B1030 m1031 d1032 y1028.1 :: L) y1047.2 p111 h1051 hS) (fun v ac w hR hA => ?_) rfl rfl rfl rfl rfl
                obtain ⟨rfl, hS⟩ := hR
                refine x_pickt hb1049 hA (fun ac hA => ?_) rfl rfl rfl rfl rfl rfl
                refine x_assign hA (fun ac hA => ?_) rfl rfl rfl rfl rfl
                refine wpList_nil ?_
                refine hK1033 _ _ ?_
                refine wp_ret ?_
                replace hS := hS.drop 0
                replace hS := hS.drop 0
                cases hF
                refine hQ _ _ ?_
                refine lv Try.results7 hA rfl ?_
                exact ⟨rfl, hS⟩
              replace hF := iff' hb1049 hF
              refine x_off hb1049 hA (fun ac hA => ?_) rfl rfl rfl rfl rfl
              refine x_off hb1049 hA (fun ac hA => ?_) rfl rfl rfl rfl rfl
              refine x_pickf hb1049 hA (fun ac hA => ?_) rfl rfl rfl rfl rfl rfl
              refine x_assign hA (fun ac hA => ?_) rfl rfl rfl rfl rfl
              refine wpList_nil ?_
              refine hK1033 _ _ ?_
              refine wp_ret ?_
              replace hS := hS.drop 0
              replace hS := hS.drop 0
              cases hF
              refine hQ _ _ ?_
              refine lv Try.results7 hA rfl ?_
              exact ⟨rfl, hS⟩
            replace hF := iff' hb1046 hF
            refine x_off hb1046 hA (fun ac hA => ?_) rfl rfl rfl rfl rfl
            refine x_off hb1046 hA (fun ac hA => ?_) rfl rfl rfl rfl rfl
            refine x_off hb1046 hA (fun ac hA => ?_) rfl rfl rfl rfl rfl
            refine x_pickf hb1046 hA (fun ac hA => ?_) rfl rfl rfl rfl rfl rfl
            refine x_move hA (fun ac hA => ?_) rfl rfl rfl rfl rfl
            refine x_off rfl hA (fun ac hA => ?_) rfl rfl rfl rfl rfl
            refine x_off rfl hA (fun ac hA => ?_) rfl rfl rfl rfl rfl
            refine x_pickf rfl hA (fun ac hA => ?_) rfl rfl rfl rfl rfl rfl
            refine x_assign hA (fun ac hA => ?_) rfl rfl rfl rfl rfl
            refine wpList_nil ?_
            refine hK1033 _ _ ?_
            refine wp_ret ?_
            replace hS := hS.drop 0
            replace hS := hS.drop 0
            cases hF
            refine hQ _ _ ?_
            refine lv Try.results7 hA rfl ?_
            exact ⟨rfl, hS⟩
          replace hF := iff' hb1043 hF
          refine x_off hb1043 hA (fun ac hA => ?_) rfl rfl rfl rfl rfl
          refine x_off hb1043 hA (fun ac hA => ?_) rfl rfl rfl rfl rfl
          refine x_off hb1043 hA (fun ac hA => ?_) rfl rfl rfl rfl rfl
          refine x_pickf hb1043 hA (fun ac hA => ?_) rfl rfl rfl rfl rfl rfl
          refine x_move hA (fun ac hA => ?_) rfl rfl rfl rfl rfl
          refine x_off rfl hA (fun ac hA => ?_) rfl rfl rfl rfl rfl
          refine x_off rfl hA (fun ac hA => ?_) rfl rfl rfl rfl rfl
          refine x_off rfl hA (fun ac hA => ?_) rfl rfl rfl rfl rfl
          refine x_pickf rfl hA (fun ac hA => ?_) rfl rfl rfl rfl rfl rfl
          refine x_move hA (fun ac hA => ?_) rfl rfl rfl rfl rfl
          refine x_off rfl hA (fun ac hA => ?_) rfl rfl rfl rfl rfl
          refine x_off rfl hA (fun ac hA => ?_) rfl rfl rfl rfl rfl
          refine x_pickf rfl hA (fun ac hA => ?_) rfl rfl rfl rfl rfl rfl
          refine x_assign hA (fun ac hA => ?_) rfl rfl rfl rfl rfl
          refine wpList_nil ?_
          refine hK1033 _ _ ?_
          refine wp_ret ?_
          replace hS := hS.drop 0
          replace hS := hS.drop 0
          cases hF
          refine hQ _ _ ?_
          refine lv Try.results7 hA rfl ?_
          exact ⟨rfl, hS⟩
        replace hF := iff' hb1040 hF
        refine x_off hb1040 hA (fun ac hA => ?_) rfl rfl rfl rfl rfl
        refine x_off hb1040 hA (fun ac hA => ?_) rfl rfl rfl rfl rfl
        refine x_off hb1040 hA (fun ac hA => ?_) rfl rfl rfl rfl rfl
        refine x_pickf hb1040 hA (fun ac hA => ?_) rfl rfl rfl rfl rfl rfl
        refine x_move hA (fun ac hA => ?_) rfl rfl rfl rfl rfl
        refine x_off rfl hA (fun ac hA => ?_) rfl rfl rfl rfl rfl
        refine x_off rfl hA (fun ac hA => ?_) rfl rfl rfl rfl rfl
        refine x_off rfl hA (fun ac hA => ?_) rfl rfl rfl rfl rfl
        refine x_pickf rfl hA (fun ac hA => ?_) rfl rfl rfl rfl rfl rfl
        refine x_move hA (fun ac hA => ?_) rfl rfl rfl rfl rfl
        refine x_off rfl hA (fun ac hA => ?_) rfl rfl rfl rfl rfl
        refine x_off rfl hA (fun ac hA => ?_) rfl rfl rfl rfl rfl
        refine x_off rfl hA (fun ac hA => ?_) rfl rfl rfl rfl rfl
        refine x_pickf rfl hA (fun ac hA => ?_) rfl rfl rfl rfl rfl rfl
        refine x_move hA (fun ac hA => ?_) rfl rfl rfl rfl rfl
        refine x_off rfl hA (fun ac hA => ?_) rfl rfl rfl rfl rfl
        refine x_off rfl hA (fun ac hA => ?_) rfl rfl rfl rfl rfl
        refine x_pickf rfl hA (fun ac hA => ?_) rfl rfl rfl rfl rfl rfl
        refine x_assign hA (fun ac hA => ?_) rfl rfl rfl rfl rfl
        refine wpList_nil ?_
        refine hK1033 _ _ ?_
        refine wp_ret ?_
        replace hS := hS.drop 0
        replace hS := hS.drop 0
        cases hF
        refine hQ _ _ ?_
        refine lv Try.results7 hA rfl ?_
        exact ⟨rfl, hS⟩
      replace hF := iff' hb1037 hF
      refine x_off hb1037 hA (fun ac hA => ?_) rfl rfl rfl rfl rfl
      refine x_off hb1037 hA (fun ac hA => ?_) rfl rfl rfl rfl rfl
      refine x_off hb1037 hA (fun ac hA => ?_) rfl rfl rfl rfl rfl
      refine x_pickf hb1037 hA (fun ac hA => ?_) rfl rfl rfl rfl rfl rfl
      refine x_move hA (fun ac hA => ?_) rfl rfl rfl rfl rfl
      refine x_off rfl hA (fun ac hA => ?_) rfl rfl rfl rfl rfl
      refine x_off rfl hA (fun ac hA => ?_) rfl rfl rfl rfl rfl
      refine x_off rfl hA (fun ac hA => ?_) rfl rfl rfl rfl rfl
      refine x_pickf rfl hA (fun ac hA => ?_) rfl rfl rfl rfl rfl rfl
      refine x_move hA (fun ac hA => ?_) rfl rfl rfl rfl rfl
      refine x_off rfl hA (fun ac hA => ?_) rfl rfl rfl rfl rfl
      refine x_off rfl hA (fun ac hA => ?_) rfl rfl rfl rfl rfl
      refine x_off rfl hA (fun ac hA => ?_) rfl rfl rfl rfl rfl
      refine x_pickf rfl hA (fun ac hA => ?_) rfl rfl rfl rfl rfl rfl
      refine x_move hA (fun ac hA => ?_) rfl rfl rfl rfl rfl
      refine x_off rfl hA (fun ac hA => ?_) rfl rfl rfl rfl rfl
      refine x_off rfl hA (fun ac hA => ?_) rfl rfl rfl rfl rfl
      refine x_off rfl hA (fun ac hA => ?_) rfl rfl rfl rfl rfl
      refine x_pickf rfl hA (fun ac hA => ?_) rfl rfl rfl rfl rfl rfl
      refine x_move hA (fun ac hA => ?_) rfl rfl rfl rfl rfl
      refine x_off rfl hA (fun ac hA => ?_) rfl rfl rfl rfl rfl
      refine x_off rfl hA (fun ac hA => ?_) rfl rfl rfl rfl rfl
      refine x_pickf rfl hA (fun ac hA => ?_) rfl rfl rfl rfl rfl rfl
      refine x_assign hA (fun ac hA => ?_) rfl rfl rfl rfl rfl
      refine wpList_nil ?_
      refine hK1033 _ _ ?_
      refine wp_ret ?_
      replace hS := hS.drop 0
      replace hS := hS.drop 0
      cases hF
      refine hQ _ _ ?_
      refine lv Try.results7 hA rfl ?_
      exact ⟨rfl, hS⟩
    replace hF := iff' hb1034 hF
    refine x_off hb1034 hA (fun ac hA => ?_) rfl rfl rfl rfl rfl
    refine x_off hb1034 hA (fun ac hA => ?_) rfl rfl rfl rfl rfl
    refine x_off hb1034 hA (fun ac hA => ?_) rfl rfl rfl rfl rfl
    refine x_pickf hb1034 hA (fun ac hA => ?_) rfl rfl rfl rfl rfl rfl
    refine x_move hA (fun ac hA => ?_) rfl rfl rfl rfl rfl
    refine x_off rfl hA (fun ac hA => ?_) rfl rfl rfl rfl rfl
    refine x_off rfl hA (fun ac hA => ?_) rfl rfl rfl rfl rfl
    refine x_off rfl hA (fun ac hA => ?_) rfl rfl rfl rfl rfl
    refine x_pickf rfl hA (fun ac hA => ?_) rfl rfl rfl rfl rfl rfl
    refine x_move hA (fun ac hA => ?_) rfl rfl rfl rfl rfl
    refine x_off rfl hA (fun ac hA => ?_) rfl rfl rfl rfl rfl
    refine x_off rfl hA (fun ac hA => ?_) rfl rfl rfl rfl rfl
    refine x_off rfl hA (fun ac hA => ?_) rfl rfl rfl rfl rfl
    refine x_pickf rfl hA (fun ac hA => ?_) rfl rfl rfl rfl rfl rfl
    refine x_move hA (fun ac hA => ?_) rfl rfl rfl rfl rfl
    refine x_off rfl hA (fun ac hA => ?_) rfl rfl rfl rfl rfl
    refine x_off rfl hA (fun ac hA => ?_) rfl rfl rfl rfl rfl
    refine x_off rfl hA (fun ac hA => ?_) rfl rfl rfl rfl rfl
    refine x_pickf rfl hA (fun ac hA => ?_) rfl rfl rfl rfl rfl rfl
    refine x_move hA (fun ac hA => ?_) rfl rfl rfl rfl rfl
    refine x_off rfl hA (fun ac hA => ?_) rfl rfl rfl rfl rfl
    refine x_off rfl hA (fun ac hA => ?_) rfl rfl rfl rfl rfl
    refine x_off rfl hA (fun ac hA => ?_) rfl rfl rfl rfl rfl
    refine x_pickf rfl hA (fun ac hA => ?_) rfl rfl rfl rfl rfl rfl
    refine x_move hA (fun ac hA => ?_) rfl rfl rfl rfl rfl
    refine x_off rfl hA (fun ac hA => ?_) rfl rfl rfl rfl rfl
    refine x_off rfl hA (fun ac hA => ?_) rfl rfl rfl rfl rfl
    refine x_pickf rfl hA (fun ac hA => ?_) rfl rfl rfl rfl rfl rfl
    refine x_assign hA (fun ac hA => ?_) rfl rfl rfl rfl rfl
    refine wpList_nil ?_
    refine hK1033 _ _ ?_
    refine wp_ret ?_
    replace hS := hS.drop 0
    replace hS := hS.drop 0
    cases hF
    refine hQ _ _ ?_
    refine lv Try.results7 hA rfl ?_
    exact ⟨rfl, hS⟩
  obtain ⟨t1258, hl1258, hF⟩ := bnd hF
  have hR1258 := hF
  have hx1258_0 : ∀ (o1258 : (Option S68)), (.inl (o1258)) = t1258 → ∀ (ac : Act) (w : World), FR 110 [] ac [(5, .pointer p111)] → SH r (optP (obj68) p111 o1258 :: L) w → Kx727 ac w := by
    intro o1258 ht ac w hA hS
    subst ht
    replace hF : law05_FilesArms_x1_0 o1258 = some y := hF
    unfold law05_FilesArms_x1_0 at hF
    exact hb1 o1258 hF ac w (hA.sub _ rfl) hS
  replace hS := hS.drop 1
  refine wp_loop_fn hl1258 (fun s ac w => FR 110 [] ac [(1, .slice A1 n1 c1), (5, .pointer p111), (7, .int .i64 x121), (8, .int .i64 s.2)] ∧ SH r (optP (obj68) p111 s.1 :: L) w) ⟨hA.sub _ rfl, hS⟩ ?_
  intro N1258 s1258 o1258 hF N1258_ T1258_ ac w hLab
  obtain ⟨o1154, x1155⟩ := s1258
  replace hF : law05_FilesArms_l1 a1 x121 o1154 x1155 = some o1258 := hF
  unfold law05_FilesArms_l1 at hF
  try dsimp only at hLab
  obtain ⟨hA, hS⟩ := hLab
  refine wp_seq_k fun K1260 hK1260 => ?_
  refine wp_seq_k fun K1261 hK1261 => ?_
  refine wp_reg ?_
  refine x_move hA (fun ac hA => ?_) rfl rfl rfl rfl rfl
  refine x_move hA (fun ac hA => ?_) rfl rfl rfl rfl rfl
  refine x_val hA (r_leI rfl (hA.ev rfl) (hA.ev rfl)) (fun ac hA => ?_) rfl rfl rfl
  refine wpList_nil ?_
  refine hK1261 _ _ ?_
  refine c_if hA rfl (fun hb1262 => ?_) fun hb1262 => ?_
  · replace hF := ift hb1262 hF
    refine wp_skip ?_
    refine hK1260 _ _ ?_
    refine wp_seq_k fun K1263 hK1263 => ?_
    refine wp_block_k fun Kx1264 hKx1264 => ?_
    refine wp_seq_k fun K1265 hK1265 => ?_
    refine wp_reg ?_
    refine x_assign hA (fun ac hA => ?_) rfl rfl rfl rfl rfl
    refine wpList_nil ?_
    refine hK1265 _ _ ?_
    refine wp_seq_k fun K1266 hK1266 => ?_
    refine wp_reg ?_
    refine x_assign hA (fun ac hA => ?_) rfl rfl rfl rfl rfl
    refine wpList_nil ?_
    refine hK1266 _ _ ?_
    refine wp_seq_k fun K1267 hK1267 => ?_
    have hj1 : ∀ (x1279 : Int), law05_FilesArms_j1 x121 o1154 x1155 x1279 = some o1258 → ∀ (ac : Act) (w : World), FR 110 [] ac [(1, .slice A1 n1 c1), (5, .pointer p111), (7, .int .i64 x121), (8, .int .i64 x1155), (10, .int .i64 x1279)] → SH r (optP (obj68) p111 o1154 :: L) w → K1267 ac w := by
      intro x1279 hF ac w hA hS
      unfold law05_FilesArms_j1 at hF
      refine hK1267 _ _ ?_
      refine wp_seq_k fun K1280 hK1280 => ?_
      refine wp_seq_k fun K1308 hK1308 => ?_
      refine wp_reg ?_
      refine x_move hA (fun ac hA => ?_) rfl rfl rfl rfl rfl
      refine wpList_nil ?_
      refine hK1308 _ _ ?_
      refine wp_block_k fun Kx1309 hKx1309 => ?_
      have hb2 : ∀ (o1321 : (Option S68)) (x1322 : Int), law05_FilesArms_b2 x121 x1155 o1321 x1322 = some o1258 → ∀ (ac : Act) (w : World), FR 110 [] ac [(1, .slice A1 n1 c1), (5, .pointer p111), (7, .int .i64 x121), (8, .int .i64 x1155), (9, .int .i64 x1322)] → SH r (optP (obj68) p111 o1321 :: L) w → Kx1309 ac w := by
        intro o1321 x1322 hF ac w hA hS
        unfold law05_FilesArms_b2 at hF
        refine hKx1309 _ _ ?_
        refine hK1280 _ _ ?_
        refine wp_seq_k fun K1323 hK1323 => ?_
        have hj2 : ∀ (b1327 : Bool), law05_FilesArms_j2 x1155 o1321 b1327 = some o1258 → ∀ (ac : Act) (w : World), FR 110 [] ac [(1, .slice A1 n1 c1), (5, .pointer p111), (7, .int .i64 x121), (8, .int .i64 x1155), (73, .bool b1327)] → SH r (optP (obj68) p111 o1321 :: L) w → K1323 ac w := by
          intro b1327 hF ac w hA hS
          unfold law05_FilesArms_j2 at hF
          refine hK1323 _ _ ?_
          refine c_if hA rfl (fun hb1328 => ?_) fun hb1328 => ?_
          · replace hF := ift hb1328 hF
            refine wp_seq_k fun K1329 hK1329 => ?_
            refine wp_reg ?_
            refine x_assign hA (fun ac hA => ?_) rfl rfl rfl rfl rfl
            refine wpList_nil ?_
            refine hK1329 _ _ ?_
            refine wp_ret ?_
            replace hS := hS.drop 0
            cases hF
            have ht := T1258_ _ rfl
            subst ht
            replace hF := hR1258
            replace hF : some false = some y := hF
            cases hF
            refine hQ _ _ ?_
            refine lv Try.results7 hA rfl ?_
            exact ⟨rfl, hS⟩
          replace hF := iff' hb1328 hF
          refine wp_skip ?_
          refine hKx1264 _ _ ?_
          refine hK1263 _ _ ?_
          refine wp_reg ?_
          refine x_move hA (fun ac hA => ?_) rfl rfl rfl rfl rfl
          obtain ⟨x1330, h1331, hF⟩ := ltt_ hF
          refine x_val (v := .int .i64 x1330) hA (rv_i h1331 (r_add rfl (hA.ev rfl) (hA.ev rfl))) (fun ac hA => ?_) rfl rfl rfl
          refine x_assign hA (fun ac hA => ?_) rfl rfl rfl rfl rfl
          refine wpList_nil ?_
          cases hF
          exact ⟨_, N1258_ _ rfl, hA.sub _ rfl, hS⟩
        refine wp_reg ?_
        refine x_move hA (fun ac hA => ?_) rfl rfl rfl rfl rfl
        refine x_val hA (r_eqI rfl (hA.ev rfl) (hA.ev rfl)) (fun ac hA => ?_) rfl rfl rfl
        refine x_move hA (fun ac hA => ?_) rfl rfl rfl rfl rfl
        refine x_move hA (fun ac hA => ?_) rfl rfl rfl rfl rfl
        refine x_val hA (r_ltI rfl (hA.ev rfl) (hA.ev rfl)) (fun ac hA => ?_) rfl rfl rfl
        refine x_val hA (r_neB Try.underlying4 rfl (hA.ev rfl) (hA.ev rfl)) (fun ac hA => ?_) rfl rfl rfl
        refine x_move hA (fun ac hA => ?_) rfl rfl rfl rfl rfl
        refine bcase (b := !((x1322 == 0) == (decide (x1155 < x121)))) (fun hb1332 => ?_) fun hb1332 => ?_
        · replace hF := ift hb1332 hF
          refine x_off hb1332 hA (fun ac hA => ?_) rfl rfl rfl rfl rfl
          refine x_off hb1332 hA (fun ac hA => ?_) rfl rfl rfl rfl rfl
          refine x_off hb1332 hA (fun ac hA => ?_) rfl rfl rfl rfl rfl
          refine x_off hb1332 hA (fun ac hA => ?_) rfl rfl rfl rfl rfl
          refine x_off hb1332 hA (fun ac hA => ?_) rfl rfl rfl rfl rfl
          refine x_off hb1332 hA (fun ac hA => ?_) rfl rfl rfl rfl rfl
          refine x_pickt hb1332 hA (fun ac hA => ?_) rfl rfl rfl rfl rfl rfl
          refine wpList_nil ?_
          exact hj2 true hF ac w (hA.sub _ rfl) hS
        replace hF := iff' hb1332 hF
        refine x_on hb1332 hA ?_ rfl rfl rfl
        refine x_move hA (fun ac hA => ?_) rfl rfl rfl rfl rfl
        refine x_on hb1332 hA ?_ rfl rfl rfl
        obtain ⟨y1333, h1334, hF⟩ := bnd hF
        refine x_call en23 hA (F_files_Store_On (L := L) o1321 p111 h1334 hS) (fun v ac w hR hA => ?_) rfl rfl rfl rfl rfl
        obtain ⟨rfl, hS⟩ := hR
        refine x_on hb1332 hA ?_ rfl rfl rfl
        refine x_move hA (fun ac hA => ?_) rfl rfl rfl rfl rfl
        refine x_on hb1332 hA ?_ rfl rfl rfl
        refine x_move hA (fun ac hA => ?_) rfl rfl rfl rfl rfl
        refine x_on hb1332 hA ?_ rfl rfl rfl
        refine x_val hA (r_ltI rfl (hA.ev rfl) (hA.ev rfl)) (fun ac hA => ?_) rfl rfl rfl
        refine x_on hb1332 hA ?_ rfl rfl rfl
        refine x_val hA (r_neB Try.underlying4 rfl (hA.ev rfl) (hA.ev rfl)) (fun ac hA => ?_) rfl rfl rfl
        refine x_pickf hb1332 hA (fun ac hA => ?_) rfl rfl rfl rfl rfl rfl
        refine wpList_nil ?_
        exact hj2 (!(y1333 == (decide (x1155 < x121)))) hF ac w (hA.sub _ rfl) hS
      refine wp_seq_k fun K1335 hK1335 => ?_
      refine wp_reg ?_
      refine x_val hA (r_eqI rfl (hA.ev rfl) (hA.ev rfl)) (fun ac hA => ?_) rfl rfl rfl
      refine x_assign hA (fun ac hA => ?_) rfl rfl rfl rfl rfl
      refine wpList_nil ?_
      refine hK1335 _ _ ?_
      refine c_if hA rfl (fun hb1336 => ?_) fun hb1336 => ?_
      · replace hF := ift hb1336 hF
        refine wp_reg ?_
        refine x_move hA (fun ac hA => ?_) rfl rfl rfl rfl rfl
        refine x_bsl (d := (kI .u8)) (e := 5) (ps := #[(0, .int .u8 121)]) (cells := [.int .u8 121]) (xs := [121]) (fun w => by kernel_rfl) rfl ⟨[.int .u8 121], _, rfl, rfl, rfl⟩ hA hS (fun g1337 ac w hS hA => ?_) rfl rfl rfl rfl rfl rfl
        replace hS := own_ownm (by decide) hS
        refine x_cvM 0 Try.underlying22 Try.underlying5 hA hS rfl (fun  ac w hS hA => ?_) rfl rfl rfl rfl rfl
        replace hS := hS.pk 1
        obtain ⟨y1338, h1339, hF⟩ := bnd hF
        refine x_call en12 hA (F_files_Store_Append (L := ownm 5 (some ⟨g1337, 0, none⟩) 1 1 [121] :: L) o1154 [97] [121] p111 (some ⟨g1337, 0, none⟩) 1 1 h1339 (RdL.ownm 0 rfl (hS.dropN 1)) hS) (fun v ac w hR hA => ?_) rfl rfl rfl rfl rfl
        obtain ⟨rfl, hS⟩ := hR
        refine x_assign hA (fun ac hA => ?_) rfl rfl rfl rfl rfl
        refine wpList_nil ?_
        replace hS := hS.drop 1
        exact hb2 y1338.2 y1338.1 hF ac w (hA.sub _ rfl) hS
      replace hF := iff' hb1336 hF
      refine wp_seq_k fun K1340 hK1340 => ?_
      refine wp_reg ?_
      refine x_val hA (r_eqI rfl (hA.ev rfl) (hA.ev rfl)) (fun ac hA => ?_) rfl rfl rfl
      refine x_assign hA (fun ac hA => ?_) rfl rfl rfl rfl rfl
      refine wpList_nil ?_
      refine hK1340 _ _ ?_
      refine c_if hA rfl (fun hb1341 => ?_) fun hb1341 => ?_
      · replace hF := ift hb1341 hF
        refine wp_reg ?_
        refine x_move hA (fun ac hA => ?_) rfl rfl rfl rfl rfl
        obtain ⟨y1342, h1343, hF⟩ := bnd hF
        refine x_call en17 hA (F_files_Store_Sync (L := L) o1154 [97] p111 h1343 hS) (fun v ac w hR hA => ?_) rfl rfl rfl rfl rfl
        obtain ⟨rfl, hS⟩ := hR
        refine x_assign hA (fun ac hA => ?_) rfl rfl rfl rfl rfl
        refine wpList_nil ?_
        exact hb2 y1342.2 y1342.1 hF ac w (hA.sub _ rfl) hS
      replace hF := iff' hb1341 hF
      refine wp_reg ?_
      refine x_move hA (fun ac hA => ?_) rfl rfl rfl rfl rfl
      obtain ⟨y1344, h1345, hF⟩ := bnd hF
      refine x_call en18 hA (F_files_Store_Rename (L := L) o1154 [97] [97] p111 h1345 hS) (fun v ac w hR hA => ?_) rfl rfl rfl rfl rfl
      obtain ⟨rfl, hS⟩ := hR
      refine x_assign hA (fun ac hA => ?_) rfl rfl rfl rfl rfl
      refine wpList_nil ?_
      exact hb2 y1344.2 y1344.1 hF ac w (hA.sub _ rfl) hS
    refine wp_seq_k fun K1346 hK1346 => ?_
    refine wp_reg ?_
    refine x_move hA (fun ac hA => ?_) rfl rfl rfl rfl rfl
    refine x_move hA (fun ac hA => ?_) rfl rfl rfl rfl rfl
    refine x_len Try.underlying22 (hS.rdl 1 ha1 rfl).2.1 hA (fun ac hA => ?_) rfl rfl rfl rfl rfl
    refine x_val hA (r_leI rfl (hA.ev rfl) (hA.ev rfl)) (fun ac hA => ?_) rfl rfl rfl
    refine wpList_nil ?_
    refine hK1346 _ _ ?_
    refine c_if hA rfl (fun hb1347 => ?_) fun hb1347 => ?_
    · replace hF := ift hb1347 hF
      refine wp_reg ?_
      refine x_move hA (fun ac hA => ?_) rfl rfl rfl rfl rfl
      refine x_move hA (fun ac hA => ?_) rfl rfl rfl rfl rfl
      obtain ⟨x1348, h1349, hF⟩ := ltt_ hF
      refine x_val (v := .int .i64 x1348) hA (rv_i h1349 (r_sub rfl (hA.ev rfl) (hA.ev rfl))) (fun ac hA => ?_) rfl rfl rfl
      obtain ⟨x1350, h1351, hF⟩ := bnd hF
      refine x_ia Try.underlying22 sz5 (hS.rdl 1 ha1 rfl) h1351 hA (fun ac hA => ?_) rfl rfl rfl rfl rfl rfl
      obtain ⟨cs, hV, hc1352⟩ := el (hS.rdl 1 ha1 rfl) h1351
      obtain rfl := hV
      refine x_ld Try.underlying5 (hc1352 0 _ rfl) hA (fun ac hA => ?_) rfl rfl rfl rfl rfl rfl
      obtain ⟨x1353, h1354, hF⟩ := ltt_ hF
      refine x_val (v := .int .i64 x1353) hA (rv_i h1354 (r_convI Try.underlying5 Try.underlying3 rfl (hA.ev rfl))) (fun ac hA => ?_) rfl rfl rfl
      obtain ⟨x1355, h1356, hF⟩ := ltt_ hF
      refine x_val (v := .int .i64 x1355) hA (rv_i h1356 (r_rem rfl (hA.ev rfl) (hA.ev rfl) (by decide))) (fun ac hA => ?_) rfl rfl rfl
      refine x_assign hA (fun ac hA => ?_) rfl rfl rfl rfl rfl
      refine wpList_nil ?_
      exact hj1 x1355 hF ac w (hA.sub _ rfl) hS
    replace hF := iff' hb1347 hF
    refine wp_skip ?_
    exact hj1 0 hF ac w (hA.sub _ rfl) hS
  replace hF := iff' hb1262 hF
  refine wp_exit ?_
  cases hF
  exact hx1258_0 o1154 (T1258_ _ rfl) ac w (hA.sub _ rfl) hS

set_option maxHeartbeats 4000000 in
theorem F_law05_FilesKeeps {r : World} {L : List HP} {w : World} (a0 : (List Int)) (A0 : Option Addr) (n0 : Nat) (c0 : Nat) {y : (Bool)} (hF : law05_FilesKeeps a0 = some y) (ha0 : RdL L (kI .u8) A0 n0 c0 a0) (hS : SH r (L) w) :
    Ret Try.prog 3 #[.slice A0 n0 c0] w fun v w' => v = .bool y ∧ SH r (L) w' := by
  refine enter Try.func3 rfl Try.ntmps3 [(0, .slice A0 n0 c0)] rfl (by simp) ?_
  intro ac hA Qf hQ hQn
  unfold law05_FilesKeeps at hF
  refine wp_seq_k fun K101 hK101 => ?_
  refine wp_reg ?_
  refine x_assign hA (fun ac hA => ?_) rfl rfl rfl rfl rfl
  refine wpList_nil ?_
  refine hK101 _ _ ?_
  refine wp_seq_k fun K102 hK102 => ?_
  refine wp_seq_k fun K103 hK103 => ?_
  have hj1 : ∀ (b108 : Bool), law05_FilesKeeps_j1 a0 b108 = some y → ∀ (ac : Act) (w : World), FR 76 [] ac [(0, .slice A0 n0 c0), (22, .bool b108)] → SH r (L) w → K103 ac w := by
    intro b108 hF ac w hA hS
    unfold law05_FilesKeeps_j1 at hF
    refine hK103 _ _ ?_
    refine c_if hA rfl (fun hb109 => ?_) fun hb109 => ?_
    · replace hF := ift hb109 hF
      refine wp_seq_k fun K110 hK110 => ?_
      refine wp_reg ?_
      obtain ⟨y111, h112, hF⟩ := bnd hF
      refine x_call en10 hA (F_law05_awake (L := L) h112 hS) (fun v ac w hR hA => ?_) rfl rfl rfl rfl rfl
      obtain ⟨rfl, hS⟩ := hR
      refine x_assign hA (fun ac hA => ?_) rfl rfl rfl rfl rfl
      refine wpList_nil ?_
      refine hK110 _ _ ?_
      refine wp_ret ?_
      cases hF
      refine hQ _ _ ?_
      refine lv Try.results3 hA rfl ?_
      exact ⟨rfl, hS⟩
    replace hF := iff' hb109 hF
    refine wp_skip ?_
    refine hK102 _ _ ?_
    refine wp_seq_k fun K113 hK113 => ?_
    refine wp_reg ?_
    obtain ⟨y114, h115, hF⟩ := bnd hF
    refine x_call en11 hA (F_files_New (L := L) 5000 h115 hS) (fun v ac w hR hA => ?_) rfl rfl rfl rfl rfl
    obtain ⟨p116, rfl, hS⟩ := hR
    refine x_move hA (fun ac hA => ?_) rfl rfl rfl rfl rfl
    refine x_val hA (r_extract rfl (hA.ev rfl) rfl) (fun ac hA => ?_) rfl rfl rfl
    refine x_val hA (r_extract rfl (hA.ev rfl) rfl) (fun ac hA => ?_) rfl rfl rfl
    refine x_assign hA (fun ac hA => ?_) rfl rfl rfl rfl rfl
    refine x_assign hA (fun ac hA => ?_) rfl rfl rfl rfl rfl
    refine wpList_nil ?_
    refine hK113 _ _ ?_
    refine wp_seq_k fun K117 hK117 => ?_
    refine wp_reg ?_
    refine x_move hA (fun ac hA => ?_) rfl rfl rfl rfl rfl
    replace hS := SH.nil_own (d := (kI .u8)) (e := 5) hS
    obtain ⟨h118, hF⟩ := chk_some hF
    have hr := hS.rdl 2 ha0 rfl
    refine x_app 0 inf5 Try.underlying22 hA hS hr.1 hr.2.1 h118 rfl (fun A119 n120 c121 ac w hS hA => ?_) rfl rfl rfl rfl rfl rfl rfl rfl rfl
    rw [List.nil_append] at hS
    refine x_assign hA (fun ac hA => ?_) rfl rfl rfl rfl rfl
    refine wpList_nil ?_
    refine hK117 _ _ ?_
    refine wp_seq_k fun K122 hK122 => ?_
    refine wp_seq_k fun K123 hK123 => ?_
    refine wp_reg ?_
    refine x_move hA (fun ac hA => ?_) rfl rfl rfl rfl rfl
    refine x_move hA (fun ac hA => ?_) rfl rfl rfl rfl rfl
    replace hS := hS.pk 1
    obtain ⟨y124, h125, hF⟩ := bnd hF
    refine x_call en12 hA (F_files_Store_Append (L := own (kI .u8) 5 A119 n120 c121 a0 :: L) y114.1 [97] a0 p116 A119 n120 c121 h125 (RdL.own 0 rfl (hS.dropN 1)) hS) (fun v ac w hR hA => ?_) rfl rfl rfl rfl rfl
    obtain ⟨rfl, hS⟩ := hR
    refine x_val hA (r_neI rfl (hA.ev rfl) (hA.ev rfl)) (fun ac hA => ?_) rfl rfl rfl
    refine wpList_nil ?_
    refine hK123 _ _ ?_
    refine c_if hA rfl (fun hb126 => ?_) fun hb126 => ?_
    · replace hF := ift hb126 hF
      refine wp_seq_k fun K127 hK127 => ?_
      refine wp_reg ?_
      refine x_assign hA (fun ac hA => ?_) rfl rfl rfl rfl rfl
      refine wpList_nil ?_
      refine hK127 _ _ ?_
      refine wp_ret ?_
      replace hS := hS.drop 0
      replace hS := hS.drop 0
      cases hF
      refine hQ _ _ ?_
      refine lv Try.results3 hA rfl ?_
      exact ⟨rfl, hS⟩
    replace hF := iff' hb126 hF
    refine wp_skip ?_
    refine hK122 _ _ ?_
    refine wp_seq_k fun K128 hK128 => ?_
    refine wp_reg ?_
    refine x_move hA (fun ac hA => ?_) rfl rfl rfl rfl rfl
    refine x_move hA (fun ac hA => ?_) rfl rfl rfl rfl rfl
    obtain ⟨x129, h130, hF⟩ := bnd hF
    refine x_ia Try.underlying22 sz5 (hS.rd 1 rfl) h130 hA (fun ac hA => ?_) rfl rfl rfl rfl rfl rfl
    obtain ⟨cs, hV, hc131⟩ := el (hS.rd 1 rfl) h130
    obtain rfl := hV
    refine x_ld Try.underlying5 (hc131 0 _ rfl) hA (fun ac hA => ?_) rfl rfl rfl rfl rfl rfl
    obtain ⟨x132, h133, hF⟩ := ltt_ hF
    refine x_val (v := .int .u8 x132) hA (rv_i h133 (r_xor rfl (hA.ev rfl) (hA.ev rfl))) (fun ac hA => ?_) rfl rfl rfl
    refine x_ia Try.underlying22 sz5 (hS.rd 1 rfl) h130 hA (fun ac hA => ?_) rfl rfl rfl rfl rfl rfl
    refine x_sto (z' := x132) (off := 0) (vs := [.int .u8 x132]) 1 sz5 hA hS rfl (at_some h130).2.2 (fun c h => by cases h; rfl) (fun  ac w hS hA => ?_) rfl rfl rfl rfl rfl rfl rfl rfl
    refine wpList_nil ?_
    refine hK128 _ _ ?_
    refine wp_seq_k fun K134 hK134 => ?_
    refine wp_reg ?_
    refine x_move hA (fun ac hA => ?_) rfl rfl rfl rfl rfl
    replace hS := hS.pk 1
    obtain ⟨y135, h136, hF⟩ := bnd hF
    refine x_call en13 hA (F_files_Store_Read (L := own (kI .u8) 5 A119 n120 c121 (a0.set (0 : Int).toNat x132) :: L) y124.2 [97] p116 h136 hS) (fun v ac w hR hA => ?_) rfl rfl rfl rfl rfl
    obtain ⟨B137, m138, d139, rfl, hS⟩ := hR
    refine x_move hA (fun ac hA => ?_) rfl rfl rfl rfl rfl
    refine x_val hA (r_extract rfl (hA.ev rfl) rfl) (fun ac hA => ?_) rfl rfl rfl
    refine x_val hA (r_extract rfl (hA.ev rfl) rfl) (fun ac hA => ?_) rfl rfl rfl
    refine x_assign hA (fun ac hA => ?_) rfl rfl rfl rfl rfl
    refine x_assign hA (fun ac hA => ?_) rfl rfl rfl rfl rfl
    refine wpList_nil ?_
    refine hK134 _ _ ?_
    refine wp_seq_k fun K140 hK140 => ?_
    refine wp_seq_k fun K141 hK141 => ?_
    refine wp_reg ?_
    refine x_move hA (fun ac hA => ?_) rfl rfl rfl rfl rfl
    refine x_b2s Try.underlying22 Try.underlying5 Try.underlying9 (hS.rd 0 rfl) hA (fun ac hA => ?_) rfl rfl rfl rfl rfl
    refine x_move hA (fun ac hA => ?_) rfl rfl rfl rfl rfl
    refine x_b2s Try.underlying22 Try.underlying5 Try.underlying9 (hS.rdl 3 ha0 rfl) hA (fun ac hA => ?_) rfl rfl rfl rfl rfl
    refine x_val hA (r_neS rfl (hA.ev rfl) (hA.ev rfl)) (fun ac hA => ?_) rfl rfl rfl
    refine wpList_nil ?_
    refine hK141 _ _ ?_
    refine c_if hA rfl (fun hb142 => ?_) fun hb142 => ?_
    · replace hF := ift hb142 hF
      refine wp_seq_k fun K143 hK143 => ?_
      refine wp_reg ?_
      refine x_assign hA (fun ac hA => ?_) rfl rfl rfl rfl rfl
      refine wpList_nil ?_
      refine hK143 _ _ ?_
      refine wp_ret ?_
      replace hS := hS.drop 0
      replace hS := hS.drop 0
      replace hS := hS.drop 0
      cases hF
      refine hQ _ _ ?_
      refine lv Try.results3 hA rfl ?_
      exact ⟨rfl, hS⟩
    replace hF := iff' hb142 hF
    refine wp_skip ?_
    refine hK140 _ _ ?_
    refine wp_seq_k fun K144 hK144 => ?_
    refine wp_reg ?_
    refine x_move hA (fun ac hA => ?_) rfl rfl rfl rfl rfl
    refine x_move hA (fun ac hA => ?_) rfl rfl rfl rfl rfl
    obtain ⟨x145, h146, hF⟩ := bnd hF
    refine x_ia Try.underlying22 sz5 (hS.rd 0 rfl) h146 hA (fun ac hA => ?_) rfl rfl rfl rfl rfl rfl
    obtain ⟨cs, hV, hc147⟩ := el (hS.rd 0 rfl) h146
    obtain rfl := hV
    refine x_ld Try.underlying5 (hc147 0 _ rfl) hA (fun ac hA => ?_) rfl rfl rfl rfl rfl rfl
    obtain ⟨x148, h149, hF⟩ := ltt_ hF
    refine x_val (v := .int .u8 x148) hA (rv_i h149 (r_xor rfl (hA.ev rfl) (hA.ev rfl))) (fun ac hA => ?_) rfl rfl rfl
    refine x_ia Try.underlying22 sz5 (hS.rd 0 rfl) h146 hA (fun ac hA => ?_) rfl rfl rfl rfl rfl rfl
    refine x_sto (z' := x148) (off := 0) (vs := [.int .u8 x148]) 0 sz5 hA hS rfl (at_some h146).2.2 (fun c h => by cases h; rfl) (fun  ac w hS hA => ?_) rfl rfl rfl rfl rfl rfl rfl rfl
    refine wpList_nil ?_
    refine hK144 _ _ ?_
    refine wp_seq_k fun K150 hK150 => ?_
    refine wp_reg ?_
    refine x_move hA (fun ac hA => ?_) rfl rfl rfl rfl rfl
    replace hS := hS.pk 1
    obtain ⟨y151, h152, hF⟩ := bnd hF
    refine x_call en12 hA (F_files_Store_Append (L := own (kI .u8) 5 B137 m138 d139 (y135.1.set (0 : Int).toNat x148) :: own (kI .u8) 5 A119 n120 c121 (a0.set (0 : Int).toNat x132) :: L) y124.2 [97] [] p116 none 0 0 h152 RdL.nil hS) (fun v ac w hR hA => ?_) rfl rfl rfl rfl rfl
    obtain ⟨rfl, hS⟩ := hR
    refine wpList_nil ?_
    refine hK150 _ _ ?_
    refine wp_seq_k fun K153 hK153 => ?_
    refine wp_reg ?_
    refine x_move hA (fun ac hA => ?_) rfl rfl rfl rfl rfl
    obtain ⟨y154, h155, hF⟩ := bnd hF
    refine x_call en14 hA (F_files_Store_List (L := own (kI .u8) 5 B137 m138 d139 (y135.1.set (0 : Int).toNat x148) :: own (kI .u8) 5 A119 n120 c121 (a0.set (0 : Int).toNat x132) :: L) y151.2 p116 h155 hS) (fun v ac w hR hA => ?_) rfl rfl rfl rfl rfl
    obtain ⟨B156, m157, d158, rfl, hS⟩ := hR
    refine x_assign hA (fun ac hA => ?_) rfl rfl rfl rfl rfl
    refine wpList_nil ?_
    refine hK153 _ _ ?_
    refine wp_seq_k fun K159 hK159 => ?_
    refine wp_reg ?_
    refine x_move hA (fun ac hA => ?_) rfl rfl rfl rfl rfl
    obtain ⟨x160, h161, hF⟩ := bnd hF
    refine x_ia Try.underlying31 sz9 (hS.rd 0 rfl) h161 hA (fun ac hA => ?_) rfl rfl rfl rfl rfl rfl
    refine x_sto (z' := [120]) (off := 0) (vs := [str [120]]) 0 sz9 hA hS rfl (at_some h161).2.2 (fun c h => by cases h; rfl) (fun  ac w hS hA => ?_) rfl rfl rfl rfl rfl rfl rfl rfl
    refine wpList_nil ?_
    refine hK159 _ _ ?_
    refine wp_seq_k fun K162 hK162 => ?_
    refine wp_reg ?_
    refine x_move hA (fun ac hA => ?_) rfl rfl rfl rfl rfl
    replace hS := hS.pk 1
    obtain ⟨y163, h164, hF⟩ := bnd hF
    refine x_call en13 hA (F_files_Store_Read (L := own kS 9 B156 m157 d158 (y154.set (0 : Int).toNat [120]) :: own (kI .u8) 5 B137 m138 d139 (y135.1.set (0 : Int).toNat x148) :: own (kI .u8) 5 A119 n120 c121 (a0.set (0 : Int).toNat x132) :: L) y151.2 [97] p116 h164 hS) (fun v ac w hR hA => ?_) rfl rfl rfl rfl rfl
    obtain ⟨B165, m166, d167, rfl, hS⟩ := hR
    refine x_move hA (fun ac hA => ?_) rfl rfl rfl rfl rfl
    refine x_val hA (r_extract rfl (hA.ev rfl) rfl) (fun ac hA => ?_) rfl rfl rfl
    refine x_val hA (r_extract rfl (hA.ev rfl) rfl) (fun ac hA => ?_) rfl rfl rfl
    refine x_assign hA (fun ac hA => ?_) rfl rfl rfl rfl rfl
    refine x_assign hA (fun ac hA => ?_) rfl rfl rfl rfl rfl
    refine wpList_nil ?_
    refine hK162 _ _ ?_
    refine wp_seq_k fun K168 hK168 => ?_
    refine wp_reg ?_
    refine x_move hA (fun ac hA => ?_) rfl rfl rfl rfl rfl
    refine x_val hA (r_eqI rfl (hA.ev rfl) (hA.ev rfl)) (fun ac hA => ?_) rfl rfl rfl
    refine x_move hA (fun ac hA => ?_) rfl rfl rfl rfl rfl
    refine bcase (b := y163.2 == 0) (fun hb169 => ?_) fun hb169 => ?_
    · replace hF := ift hb169 hF
      refine x_on hb169 hA ?_ rfl rfl rfl
      refine x_move hA (fun ac hA => ?_) rfl rfl rfl rfl rfl
      refine x_on hb169 hA ?_ rfl rfl rfl
      refine x_b2s Try.underlying22 Try.underlying5 Try.underlying9 (hS.rd 0 rfl) hA (fun ac hA => ?_) rfl rfl rfl rfl rfl
      refine x_on hb169 hA ?_ rfl rfl rfl
      refine x_move hA (fun ac hA => ?_) rfl rfl rfl rfl rfl
      refine x_on hb169 hA ?_ rfl rfl rfl
      refine x_b2s Try.underlying22 Try.underlying5 Try.underlying9 (hS.rdl 5 ha0 rfl) hA (fun ac hA => ?_) rfl rfl rfl rfl rfl
      refine x_on hb169 hA ?_ rfl rfl rfl
      refine x_val hA (r_eqS rfl (hA.ev rfl) (hA.ev rfl)) (fun ac hA => ?_) rfl rfl rfl
      refine x_pickt hb169 hA (fun ac hA => ?_) rfl rfl rfl rfl rfl rfl
      refine x_assign hA (fun ac hA => ?_) rfl rfl rfl rfl rfl
      refine wpList_nil ?_
      refine hK168 _ _ ?_
      refine wp_ret ?_
      replace hS := hS.drop 0
      replace hS := hS.drop 0
      replace hS := hS.drop 0
      replace hS := hS.drop 0
      replace hS := hS.drop 0
      cases hF
      refine hQ _ _ ?_
      refine lv Try.results3 hA rfl ?_
      exact ⟨rfl, hS⟩
    replace hF := iff' hb169 hF
    refine x_off hb169 hA (fun ac hA => ?_) rfl rfl rfl rfl rfl
    refine x_off hb169 hA (fun ac hA => ?_) rfl rfl rfl rfl rfl
    refine x_off hb169 hA (fun ac hA => ?_) rfl rfl rfl rfl rfl
    refine x_off hb169 hA (fun ac hA => ?_) rfl rfl rfl rfl rfl
    refine x_off hb169 hA (fun ac hA => ?_) rfl rfl rfl rfl rfl
    refine x_pickf hb169 hA (fun ac hA => ?_) rfl rfl rfl rfl rfl rfl
    refine x_assign hA (fun ac hA => ?_) rfl rfl rfl rfl rfl
    refine wpList_nil ?_
    refine hK168 _ _ ?_
    refine wp_ret ?_
    replace hS := hS.drop 0
    replace hS := hS.drop 0
    replace hS := hS.drop 0
    replace hS := hS.drop 0
    replace hS := hS.drop 0
    cases hF
    refine hQ _ _ ?_
    refine lv Try.results3 hA rfl ?_
    exact ⟨rfl, hS⟩
  refine wp_reg ?_
  obtain ⟨y170, h171, hF⟩ := bnd hF
  refine x_call en10 hA (F_law05_awake (L := L) h171 hS) (fun v ac w hR hA => ?_) rfl rfl rfl rfl rfl
  obtain ⟨rfl, hS⟩ := hR
  refine x_val hA (r_not rfl (hA.ev rfl)) (fun ac hA => ?_) rfl rfl rfl
  refine x_move hA (fun ac hA => ?_) rfl rfl rfl rfl rfl
  refine bcase (b := !y170) (fun hb172 => ?_) fun hb172 => ?_
  · replace hF := ift hb172 hF
    refine x_off hb172 hA (fun ac hA => ?_) rfl rfl rfl rfl rfl
    refine x_off hb172 hA (fun ac hA => ?_) rfl rfl rfl rfl rfl
    refine x_off hb172 hA (fun ac hA => ?_) rfl rfl rfl rfl rfl
    refine x_pickt hb172 hA (fun ac hA => ?_) rfl rfl rfl rfl rfl rfl
    refine x_move hA (fun ac hA => ?_) rfl rfl rfl rfl rfl
    refine x_off rfl hA (fun ac hA => ?_) rfl rfl rfl rfl rfl
    refine x_off rfl hA (fun ac hA => ?_) rfl rfl rfl rfl rfl
    refine x_off rfl hA (fun ac hA => ?_) rfl rfl rfl rfl rfl
    refine x_pickt rfl hA (fun ac hA => ?_) rfl rfl rfl rfl rfl rfl
    refine wpList_nil ?_
    exact hj1 true hF ac w (hA.sub _ rfl) hS
  replace hF := iff' hb172 hF
  refine x_on hb172 hA ?_ rfl rfl rfl
  refine x_move hA (fun ac hA => ?_) rfl rfl rfl rfl rfl
  refine x_on hb172 hA ?_ rfl rfl rfl
  refine x_len Try.underlying22 (hS.rdl 0 ha0 rfl).2.1 hA (fun ac hA => ?_) rfl rfl rfl rfl rfl
  refine x_on hb172 hA ?_ rfl rfl rfl
  refine x_val hA (r_eqI rfl (hA.ev rfl) (hA.ev rfl)) (fun ac hA => ?_) rfl rfl rfl
  refine x_pickf hb172 hA (fun ac hA => ?_) rfl rfl rfl rfl rfl rfl
  refine x_move hA (fun ac hA => ?_) rfl rfl rfl rfl rfl
  refine bcase (b := (a0.length : Int) == 0) (fun hb173 => ?_) fun hb173 => ?_
  · replace hF := ift hb173 hF
    refine x_off hb173 hA (fun ac hA => ?_) rfl rfl rfl rfl rfl
    refine x_off hb173 hA (fun ac hA => ?_) rfl rfl rfl rfl rfl
    refine x_off hb173 hA (fun ac hA => ?_) rfl rfl rfl rfl rfl
    refine x_pickt hb173 hA (fun ac hA => ?_) rfl rfl rfl rfl rfl rfl
    refine wpList_nil ?_
    exact hj1 true hF ac w (hA.sub _ rfl) hS
  replace hF := iff' hb173 hF
  refine x_on hb173 hA ?_ rfl rfl rfl
  refine x_move hA (fun ac hA => ?_) rfl rfl rfl rfl rfl
  refine x_on hb173 hA ?_ rfl rfl rfl
  refine x_len Try.underlying22 (hS.rdl 0 ha0 rfl).2.1 hA (fun ac hA => ?_) rfl rfl rfl rfl rfl
  refine x_on hb173 hA ?_ rfl rfl rfl
  refine x_val hA (r_gtI rfl (hA.ev rfl) (hA.ev rfl)) (fun ac hA => ?_) rfl rfl rfl
  refine x_pickf hb173 hA (fun ac hA => ?_) rfl rfl rfl rfl rfl rfl
  refine wpList_nil ?_
  exact hj1 (decide (1000 < (a0.length : Int))) hF ac w (hA.sub _ rfl) hS

set_option maxHeartbeats 4000000 in
theorem F_law05_FilesNil {r : World} {L : List HP} {w : World} (a0 : (List UInt8)) (a1 : (List Int)) (a2 : Int) (A1 : Option Addr) (n1 : Nat) (c1 : Nat) {y : (Bool)} (hF : law05_FilesNil a0 a1 a2 = some y) (ha1 : RdL L (kI .u8) A1 n1 c1 a1) (hS : SH r (L) w) :
    Ret Try.prog 9 #[str a0, .slice A1 n1 c1, .int .i64 a2] w fun v w' => v = .bool y ∧ SH r (L) w' := by
  refine enter Try.func9 rfl Try.ntmps9 [(0, str a0), (1, .slice A1 n1 c1), (2, .int .i64 a2)] rfl (by simp) ?_
  intro ac hA Qf hQ hQn
  unfold law05_FilesNil at hF
  refine wp_seq_k fun K101 hK101 => ?_
  refine wp_reg ?_
  refine x_assign hA (fun ac hA => ?_) rfl rfl rfl rfl rfl
  refine wpList_nil ?_
  refine hK101 _ _ ?_
  refine wp_seq_k fun K102 hK102 => ?_
  refine wp_reg ?_
  refine x_assign hA (fun ac hA => ?_) rfl rfl rfl rfl rfl
  refine wpList_nil ?_
  refine hK102 _ _ ?_
  refine wp_seq_k fun K103 hK103 => ?_
  refine wp_reg ?_
  refine x_move hA (fun ac hA => ?_) rfl rfl rfl rfl rfl
  refine x_move hA (fun ac hA => ?_) rfl rfl rfl rfl rfl
  replace hS := SH.optN (obj68) hS
  obtain ⟨y104, h105, hF⟩ := bnd hF
  refine x_call en13 hA (F_files_Store_Read (L := L) none a0 none h105 hS) (fun v ac w hR hA => ?_) rfl rfl rfl rfl rfl
  obtain ⟨B106, m107, d108, rfl, hS⟩ := hR
  refine x_move hA (fun ac hA => ?_) rfl rfl rfl rfl rfl
  refine x_val hA (r_extract rfl (hA.ev rfl) rfl) (fun ac hA => ?_) rfl rfl rfl
  refine x_val hA (r_extract rfl (hA.ev rfl) rfl) (fun ac hA => ?_) rfl rfl rfl
  refine x_assign hA (fun ac hA => ?_) rfl rfl rfl rfl rfl
  refine x_assign hA (fun ac hA => ?_) rfl rfl rfl rfl rfl
  refine wpList_nil ?_
  refine hK103 _ _ ?_
  refine wp_seq_k fun K109 hK109 => ?_
  refine wp_reg ?_
  obtain ⟨y110, h111, hF⟩ := bnd hF
  refine x_call en10 hA (F_law05_awake (L := own (kI .u8) 5 B106 m107 d108 y104.1 :: optP (obj68) none none :: L) h111 hS) (fun v ac w hR hA => ?_) rfl rfl rfl rfl rfl
  obtain ⟨rfl, hS⟩ := hR
  refine x_move hA (fun ac hA => ?_) rfl rfl rfl rfl rfl
  refine bcase (b := y110) (fun hb112 => ?_) fun hb112 => ?_
  · replace hF := ift hb112 hF
    refine x_on hb112 hA ?_ rfl rfl rfl
    refine x_move hA (fun ac hA => ?_) rfl rfl rfl rfl rfl
    refine x_on hb112 hA ?_ rfl rfl rfl
    refine x_val hA (r_eqI rfl (hA.ev rfl) (hA.ev rfl)) (fun ac hA => ?_) rfl rfl rfl
    refine x_pickt hb112 hA (fun ac hA => ?_) rfl rfl rfl rfl rfl rfl
    refine x_move hA (fun ac hA => ?_) rfl rfl rfl rfl rfl
    refine bcase (b := y104.2 == 5) (fun hb113 => ?_) fun hb113 => ?_
    · replace hF := ift hb113 hF
      refine x_on hb113 hA ?_ rfl rfl rfl
      refine x_move hA (fun ac hA => ?_) rfl rfl rfl rfl rfl
      refine x_on hb113 hA ?_ rfl rfl rfl
      refine x_move hA (fun ac hA => ?_) rfl rfl rfl rfl rfl
      refine x_on hb113 hA ?_ rfl rfl rfl
      refine x_move hA (fun ac hA => ?_) rfl rfl rfl rfl rfl
      refine x_on hb113 hA ?_ rfl rfl rfl
      replace hS := SH.optN (obj68) hS
      obtain ⟨y114, h115, hF⟩ := bnd hF
      refine x_call en12 hA (F_files_Store_Append (L := own (kI .u8) 5 B106 m107 d108 y104.1 :: optP (obj68) none none :: L) none a0 a1 none A1 n1 c1 h115 (RdL.sfx 2 rfl ha1) hS) (fun v ac w hR hA => ?_) rfl rfl rfl rfl rfl
      obtain ⟨rfl, hS⟩ := hR
      refine x_on hb113 hA ?_ rfl rfl rfl
      refine x_val hA (r_eqI rfl (hA.ev rfl) (hA.ev rfl)) (fun ac hA => ?_) rfl rfl rfl
      refine x_pickt hb113 hA (fun ac hA => ?_) rfl rfl rfl rfl rfl rfl
      refine x_move hA (fun ac hA => ?_) rfl rfl rfl rfl rfl
      refine bcase (b := y114.1 == 5) (fun hb116 => ?_) fun hb116 => ?_
      · replace hF := ift hb116 hF
        refine x_on hb116 hA ?_ rfl rfl rfl
        refine x_move hA (fun ac hA => ?_) rfl rfl rfl rfl rfl
        refine x_on hb116 hA ?_ rfl rfl rfl
        refine x_move hA (fun ac hA => ?_) rfl rfl rfl rfl rfl
        refine x_on hb116 hA ?_ rfl rfl rfl
        replace hS := SH.optN (obj68) hS
        obtain ⟨y117, h118, hF⟩ := bnd hF
        refine x_call en17 hA (F_files_Store_Sync (L := optP (obj68) none y114.2 :: own (kI .u8) 5 B106 m107 d108 y104.1 :: optP (obj68) none none :: L) none a0 none h118 hS) (fun v ac w hR hA => ?_) rfl rfl rfl rfl rfl
        obtain ⟨rfl, hS⟩ := hR
        refine x_on hb116 hA ?_ rfl rfl rfl
        refine x_val hA (r_eqI rfl (hA.ev rfl) (hA.ev rfl)) (fun ac hA => ?_) rfl rfl rfl
        refine x_pickt hb116 hA (fun ac hA => ?_) rfl rfl rfl rfl rfl rfl
        refine x_move hA (fun ac hA => ?_) rfl rfl rfl rfl rfl
        refine bcase (b := y117.1 == 5) (fun hb119 => ?_) fun hb119 => ?_
        · replace hF := ift hb119 hF
          refine x_on hb119 hA ?_ rfl rfl rfl
          refine x_move hA (fun ac hA => ?_) rfl rfl rfl rfl rfl
          refine x_on hb119 hA ?_ rfl rfl rfl
          refine x_move hA (fun ac hA => ?_) rfl rfl rfl rfl rfl
          refine x_on hb119 hA ?_ rfl rfl rfl
          replace hS := SH.optN (obj68) hS
          obtain ⟨y120, h121, hF⟩ := bnd hF
          refine x_call en15 hA (F_files_Store_Delete (L := optP (obj68) none y117.2 :: optP (obj68) none y114.2 :: own (kI .u8) 5 B106 m107 d108 y104.1 :: optP (obj68) none none :: L) none a0 none h121 hS) (fun v ac w hR hA => ?_) rfl rfl rfl rfl rfl
          obtain ⟨rfl, hS⟩ := hR
          refine x_on hb119 hA ?_ rfl rfl rfl
          refine x_val hA (r_eqI rfl (hA.ev rfl) (hA.ev rfl)) (fun ac hA => ?_) rfl rfl rfl
          refine x_pickt hb119 hA (fun ac hA => ?_) rfl rfl rfl rfl rfl rfl
          refine x_move hA (fun ac hA => ?_) rfl rfl rfl rfl rfl
          refine bcase (b := y120.1 == 5) (fun hb122 => ?_) fun hb122 => ?_
          · replace hF := ift hb122 hF
            refine x_on hb122 hA ?_ rfl rfl rfl
            refine x_move hA (fun ac hA => ?_) rfl rfl rfl rfl rfl
            refine x_on hb122 hA ?_ rfl rfl rfl
            refine x_move hA (fun ac hA => ?_) rfl rfl rfl rfl rfl
            refine x_on hb122 hA ?_ rfl rfl rfl
            refine x_move hA (fun ac hA => ?_) rfl rfl rfl rfl rfl
            refine x_on hb122 hA ?_ rfl rfl rfl
            replace hS := SH.optN (obj68) hS
            obtain ⟨y123, h124, hF⟩ := bnd hF
            refine x_call en18 hA (F_files_Store_Rename (L := optP (obj68) none y120.2 :: optP (obj68) none y117.2 :: optP (obj68) none y114.2 :: own (kI .u8) 5 B106 m107 d108 y104.1 :: optP (obj68) none none :: L) none a0 a0 none h124 hS) (fun v ac w hR hA => ?_) rfl rfl rfl rfl rfl
            obtain ⟨rfl, hS⟩ := hR
            refine x_on hb122 hA ?_ rfl rfl rfl
            refine x_val hA (r_eqI rfl (hA.ev rfl) (hA.ev rfl)) (fun ac hA => ?_) rfl rfl rfl
            refine x_pickt hb122 hA (fun ac hA => ?_) rfl rfl rfl rfl rfl rfl
            refine x_move hA (fun ac hA => ?_) rfl rfl rfl rfl rfl
            refine bcase (b := y123.1 == 5) (fun hb125 => ?_) fun hb125 => ?_
            · replace hF := ift hb125 hF
              refine x_on hb125 hA ?_ rfl rfl rfl
              refine x_move hA (fun ac hA => ?_) rfl rfl rfl rfl rfl
              refine x_on hb125 hA ?_ rfl rfl rfl
              refine x_move hA (fun ac hA => ?_) rfl rfl rfl rfl rfl
              refine x_on hb125 hA ?_ rfl rfl rfl
              replace hS := SH.optN (obj68) hS
              obtain ⟨y126, h127, hF⟩ := bnd hF
              refine x_call en22 hA (F_files_Store_Arm (L := optP (obj68) none y123.2 :: optP (obj68) none y120.2 :: optP (obj68) none y117.2 :: optP (obj68) none y114.2 :: own (kI .u8) 5 B106 m107 d108 y104.1 :: optP (obj68) none none :: L) none a2 none h127 hS) (fun v ac w hR hA => ?_) rfl rfl rfl rfl rfl
              obtain ⟨rfl, hS⟩ := hR
              refine x_on hb125 hA ?_ rfl rfl rfl
              refine x_val hA (r_eqI rfl (hA.ev rfl) (hA.ev rfl)) (fun ac hA => ?_) rfl rfl rfl
              refine x_pickt hb125 hA (fun ac hA => ?_) rfl rfl rfl rfl rfl rfl
              refine x_move hA (fun ac hA => ?_) rfl rfl rfl rfl rfl
              refine bcase (b := y126.1 == 5) (fun hb128 => ?_) fun hb128 => ?_
              · replace hF := ift hb128 hF
                refine x_on hb128 hA ?_ rfl rfl rfl
                refine x_move hA (fun ac hA => ?_) rfl rfl rfl rfl rfl
                refine x_on hb128 hA ?_ rfl rfl rfl
                replace hS := SH.optN (obj68) hS
                obtain ⟨y129, h130, hF⟩ := bnd hF
                refine x_call en19 hA (F_files_Store_Restart (L := optP (obj68) none y126.2 :: optP (obj68) none y123.2 :: optP (obj68) none y120.2 :: optP (obj68) none y117.2 :: optP (obj68) none y114.2 :: own (kI .u8) 5 B106 m107 d108 y104.1 :: optP (obj68) none none :: L) none [] none none 0 0 h130 RdL.nil hS) (fun v ac w hR hA => ?_) rfl rfl rfl rfl rfl
                obtain ⟨rfl, hS⟩ := hR
                refine x_on hb128 hA ?_ rfl rfl rfl
                refine x_val hA (r_eqI rfl (hA.ev rfl) (hA.ev rfl)) (fun ac hA => ?_) rfl rfl rfl
                refine x_pickt hb128 hA (fun ac hA => ?_) rfl rfl rfl rfl rfl rfl
                refine x_move hA (fun ac hA => ?_) rfl rfl rfl rfl rfl
                refine bcase (b := y129.1 == 5) (fun hb131 => ?_) fun hb131 => ?_
                · replace hF := ift hb131 hF
                  refine x_on hb131 hA ?_ rfl rfl rfl
                  refine x_move hA (fun ac hA => ?_) rfl rfl rfl rfl rfl
                  refine x_on hb131 hA ?_ rfl rfl rfl
                  refine x_move hA (fun ac hA => ?_) rfl rfl rfl rfl rfl
                  refine x_on hb131 hA ?_ rfl rfl rfl
                  refine x_move hA (fun ac hA => ?_) rfl rfl rfl rfl rfl
                  refine x_on hb131 hA ?_ rfl rfl rfl
                  replace hS := SH.optN (obj68) hS
                  obtain ⟨y132, h133, hF⟩ := bnd hF
                  refine x_call en34 hA (F_files_Store_Spoil (L := optP (obj68) none y129.2 :: optP (obj68) none y126.2 :: optP (obj68) none y123.2 :: optP (obj68) none y120.2 :: optP (obj68) none y117.2 :: optP (obj68) none y114.2 :: own (kI .u8) 5 B106 m107 d108 y104.1 :: optP (obj68) none none :: L) none a0 a2 none h133 hS) (fun v ac w hR hA => ?_) rfl rfl rfl rfl rfl
                  obtain ⟨rfl, hS⟩ := hR
                  refine x_on hb131 hA ?_ rfl rfl rfl
                  refine x_val hA (r_eqI rfl (hA.ev rfl) (hA.ev rfl)) (fun ac hA => ?_) rfl rfl rfl
                  refine x_pickt hb131 hA (fun ac hA => ?_) rfl rfl rfl rfl rfl rfl
                  refine x_move hA (fun ac hA => ?_) rfl rfl rfl rfl rfl
                  refine bcase (b := y132.1 == 5) (fun hb134 => ?_) fun hb134 => ?_
                  · replace hF := ift hb134 hF
                    refine x_on hb134 hA ?_ rfl rfl rfl
                    refine x_move hA (fun ac hA => ?_) rfl rfl rfl rfl rfl
                    refine x_on hb134 hA ?_ rfl rfl rfl
                    replace hS := SH.optN (obj68) hS
                    obtain ⟨y135, h136, hF⟩ := bnd hF
                    refine x_call en23 hA (F_files_Store_On (L := optP (obj68) none y132.2 :: optP (obj68) none y129.2 :: optP (obj68) none y126.2 :: optP (obj68) none y123.2 :: optP (obj68) none y120.2 :: optP (obj68) none y117.2 :: optP (obj68) none y114.2 :: own (kI .u8) 5 B106 m107 d108 y104.1 :: optP (obj68) none none :: L) none none h136 hS) (fun v ac w hR hA => ?_) rfl rfl rfl rfl rfl
                    obtain ⟨rfl, hS⟩ := hR
                    refine x_on hb134 hA ?_ rfl rfl rfl
                    refine x_val hA (r_not rfl (hA.ev rfl)) (fun ac hA => ?_) rfl rfl rfl
                    refine x_pickt hb134 hA (fun ac hA => ?_) rfl rfl rfl rfl rfl rfl
                    refine x_move hA (fun ac hA => ?_) rfl rfl rfl rfl rfl
                    refine bcase (b := !y135) (fun hb137 => ?_) fun hb137 => ?_
                    · replace hF := ift hb137 hF
                      refine x_on hb137 hA ?_ rfl rfl rfl
                      refine x_move hA (fun ac hA => ?_) rfl rfl rfl rfl rfl
                      refine x_on hb137 hA ?_ rfl rfl rfl
                      replace hS := SH.optN (obj68) hS
                      obtain ⟨y138, h139, hF⟩ := bnd hF
                      refine x_call en16 hA (F_files_Store_Used (L := optP (obj68) none none :: optP (obj68) none y132.2 :: optP (obj68) none y129.2 :: optP (obj68) none y126.2 :: optP (obj68) none y123.2 :: optP (obj68) none y120.2 :: optP (obj68) none y117.2 :: optP (obj68) none y114.2 :: own (kI .u8) 5 B106 m107 d108 y104.1 :: optP (obj68) none none :: L) none none h139 hS) (fun v ac w hR hA => ?_) rfl rfl rfl rfl rfl
                      obtain ⟨rfl, hS⟩ := hR
                      refine x_on hb137 hA ?_ rfl rfl rfl
                      refine x_move hA (fun ac hA => ?_) rfl rfl rfl rfl rfl
                      refine x_on hb137 hA ?_ rfl rfl rfl
                      replace hS := SH.optN (obj68) hS
                      obtain ⟨y140, h141, hF⟩ := bnd hF
                      refine x_call en32 hA (F_files_Store_Ops (L := optP (obj68) none none :: optP (obj68) none none :: optP (obj68) none y132.2 :: optP (obj68) none y129.2 :: optP (obj68) none y126.2 :: optP (obj68) none y123.2 :: optP (obj68) none y120.2 :: optP (obj68) none y117.2 :: optP (obj68) none y114.2 :: own (kI .u8) 5 B106 m107 d108 y104.1 :: optP (obj68) none none :: L) none none h141 hS) (fun v ac w hR hA => ?_) rfl rfl rfl rfl rfl
                      obtain ⟨rfl, hS⟩ := hR
                      refine x_on hb137 hA ?_ rfl rfl rfl
                      obtain ⟨x142, h143, hF⟩ := ltt_ hF
                      refine x_val (v := .int .i64 x142) hA (rv_i h143 (r_add rfl (hA.ev rfl) (hA.ev rfl))) (fun ac hA => ?_) rfl rfl rfl
                      refine x_on hb137 hA ?_ rfl rfl rfl
                      refine x_move hA (fun ac hA => ?_) rfl rfl rfl rfl rfl
                      refine x_on hb137 hA ?_ rfl rfl rfl
                      replace hS := SH.optN (obj68) hS
                      obtain ⟨y144, h145, hF⟩ := bnd hF
                      refine x_call en14 hA (F_files_Store_List (L := optP (obj68) none none :: optP (obj68) none none :: optP (obj68) none none :: optP (obj68) none y132.2 :: optP (obj68) none y129.2 :: optP (obj68) none y126.2 :: optP (obj68) none y123.2 :: optP (obj68) none y120.2 :: optP (obj68) none y117.2 :: optP (obj68) none y114.2 :: own (kI .u8) 5 B106 m107 d108 y104.1 :: optP (obj68) none none :: L) none none h145 hS) (fun v ac w hR hA => ?_) rfl rfl rfl rfl rfl
                      obtain ⟨B146, m147, d148, rfl, hS⟩ := hR
                      refine x_on hb137 hA ?_ rfl rfl rfl
                      refine x_len Try.underlying31 (hS.rd 0 rfl).2.1 hA (fun ac hA => ?_) rfl rfl rfl rfl rfl
                      refine x_on hb137 hA ?_ rfl rfl rfl
                      obtain ⟨x149, h150, hF⟩ := ltt_ hF
                      refine x_val (v := .int .i64 x149) hA (rv_i h150 (r_add rfl (hA.ev rfl) (hA.ev rfl))) (fun ac hA => ?_) rfl rfl rfl
                      refine x_on hb137 hA ?_ rfl rfl rfl
                      refine x_val hA (r_eqI rfl (hA.ev rfl) (hA.ev rfl)) (fun ac hA => ?_) rfl rfl rfl
                      refine x_pickt hb137 hA (fun ac hA => ?_) rfl rfl rfl rfl rfl rfl
                      refine x_assign hA (fun ac hA => ?_) rfl rfl rfl rfl rfl
                      refine wpList_nil ?_
                      refine hK109 _ _ ?_
                      refine wp_ret ?_
                      replace hS := hS.drop 0
                      replace hS := hS.drop 0
                      replace hS := hS.drop 0
                      replace hS := hS.drop 0
                      replace hS := hS.drop 0
                      replace hS := hS.drop 0
                      replace hS := hS.drop 0
                      replace hS := hS.drop 0
                      replace hS := hS.drop 0
                      replace hS := hS.drop 0
                      replace hS := hS.drop 0
                      replace hS := hS.drop 0
                      replace hS := hS.drop 0
                      replace hS := hS.drop 0
                      cases hF
                      refine hQ _ _ ?_
                      refine lv Try.results9 hA rfl ?_
                      exact ⟨rfl, hS⟩
                    replace hF := iff' hb137 hF
                    refine x_off hb137 hA (fun ac hA => ?_) rfl rfl rfl rfl rfl
                    refine x_off hb137 hA (fun ac hA => ?_) rfl rfl rfl rfl rfl
                    refine x_off hb137 hA (fun ac hA => ?_) rfl rfl rfl rfl rfl
                    refine x_off hb137 hA (fun ac hA => ?_) rfl rfl rfl rfl rfl
                    refine x_off hb137 hA (fun ac hA => ?_) rfl rfl rfl rfl rfl
                    refine x_off hb137 hA (fun ac hA => ?_) rfl rfl rfl rfl rfl
                    refine x_off hb137 hA (fun ac hA => ?_) rfl rfl rfl rfl rfl
                    refine x_off hb137 hA (fun ac hA => ?_) rfl rfl rfl rfl rfl
                    refine x_off hb137 hA (fun ac hA => ?_) rfl rfl rfl rfl rfl
                    refine x_off hb137 hA (fun ac hA => ?_) rfl rfl rfl rfl rfl
                    refine x_pickf hb137 hA (fun ac hA => ?_) rfl rfl rfl rfl rfl rfl
                    refine x_assign hA (fun ac hA => ?_) rfl rfl rfl rfl rfl
                    refine wpList_nil ?_
                    refine hK109 _ _ ?_
                    refine wp_ret ?_
                    replace hS := hS.drop 0
                    replace hS := hS.drop 0
                    replace hS := hS.drop 0
                    replace hS := hS.drop 0
                    replace hS := hS.drop 0
                    replace hS := hS.drop 0
                    replace hS := hS.drop 0
                    replace hS := hS.drop 0
                    replace hS := hS.drop 0
                    replace hS := hS.drop 0
                    cases hF
                    refine hQ _ _ ?_
                    refine lv Try.results9 hA rfl ?_
                    exact ⟨rfl, hS⟩
                  replace hF := iff' hb134 hF
                  refine x_off hb134 hA (fun ac hA => ?_) rfl rfl rfl rfl rfl
                  refine x_off hb134 hA (fun ac hA => ?_) rfl rfl rfl rfl rfl
                  refine x_off hb134 hA (fun ac hA => ?_) rfl rfl rfl rfl rfl
                  refine x_pickf hb134 hA (fun ac hA => ?_) rfl rfl rfl rfl rfl rfl
                  refine x_move hA (fun ac hA => ?_) rfl rfl rfl rfl rfl
                  refine x_off rfl hA (fun ac hA => ?_) rfl rfl rfl rfl rfl
                  refine x_off rfl hA (fun ac hA => ?_) rfl rfl rfl rfl rfl
                  refine x_off rfl hA (fun ac hA => ?_) rfl rfl rfl rfl rfl
                  refine x_off rfl hA (fun ac hA => ?_) rfl rfl rfl rfl rfl
                  refine x_off rfl hA (fun ac hA => ?_) rfl rfl rfl rfl rfl
                  refine x_off rfl hA (fun ac hA => ?_) rfl rfl rfl rfl rfl
                  refine x_off rfl hA (fun ac hA => ?_) rfl rfl rfl rfl rfl
                  refine x_off rfl hA (fun ac hA => ?_) rfl rfl rfl rfl rfl
                  refine x_off rfl hA (fun ac hA => ?_) rfl rfl rfl rfl rfl
                  refine x_off rfl hA (fun ac hA => ?_) rfl rfl rfl rfl rfl
                  refine x_pickf rfl hA (fun ac hA => ?_) rfl rfl rfl rfl rfl rfl
                  refine x_assign hA (fun ac hA => ?_) rfl rfl rfl rfl rfl
                  refine wpList_nil ?_
                  refine hK109 _ _ ?_
                  refine wp_ret ?_
                  replace hS := hS.drop 0
                  replace hS := hS.drop 0
                  replace hS := hS.drop 0
                  replace hS := hS.drop 0
                  replace hS := hS.drop 0
                  replace hS := hS.drop 0
                  replace hS := hS.drop 0
                  replace hS := hS.drop 0
                  replace hS := hS.drop 0
                  cases hF
                  refine hQ _ _ ?_
                  refine lv Try.results9 hA rfl ?_
                  exact ⟨rfl, hS⟩
                replace hF := iff' hb131 hF
                refine x_off hb131 hA (fun ac hA => ?_) rfl rfl rfl rfl rfl
                refine x_off hb131 hA (fun ac hA => ?_) rfl rfl rfl rfl rfl
                refine x_off hb131 hA (fun ac hA => ?_) rfl rfl rfl rfl rfl
                refine x_off hb131 hA (fun ac hA => ?_) rfl rfl rfl rfl rfl
                refine x_off hb131 hA (fun ac hA => ?_) rfl rfl rfl rfl rfl
                refine x_pickf hb131 hA (fun ac hA => ?_) rfl rfl rfl rfl rfl rfl
                refine x_move hA (fun ac hA => ?_) rfl rfl rfl rfl rfl
                refine x_off rfl hA (fun ac hA => ?_) rfl rfl rfl rfl rfl
                refine x_off rfl hA (fun ac hA => ?_) rfl rfl rfl rfl rfl
                refine x_off rfl hA (fun ac hA => ?_) rfl rfl rfl rfl rfl
                refine x_pickf rfl hA (fun ac hA => ?_) rfl rfl rfl rfl rfl rfl
                refine x_move hA (fun ac hA => ?_) rfl rfl rfl rfl rfl
                refine x_off rfl hA (fun ac hA => ?_) rfl rfl rfl rfl rfl
                refine x_off rfl hA (fun ac hA => ?_) rfl rfl rfl rfl rfl
                refine x_off rfl hA (fun ac hA => ?_) rfl rfl rfl rfl rfl
                refine x_off rfl hA (fun ac hA => ?_) rfl rfl rfl rfl rfl
                refine x_off rfl hA (fun ac hA => ?_) rfl rfl rfl rfl rfl
                refine x_off rfl hA (fun ac hA => ?_) rfl rfl rfl rfl rfl
                refine x_off rfl hA (fun ac hA => ?_) rfl rfl rfl rfl rfl
                refine x_off rfl hA (fun ac hA => ?_) rfl rfl rfl rfl rfl
                refine x_off rfl hA (fun ac hA => ?_) rfl rfl rfl rfl rfl
                refine x_off rfl hA (fun ac hA => ?_) rfl rfl rfl rfl rfl
                refine x_pickf rfl hA (fun ac hA => ?_) rfl rfl rfl rfl rfl rfl
                refine x_assign hA (fun ac hA => ?_) rfl rfl rfl rfl rfl
                refine wpList_nil ?_
                refine hK109 _ _ ?_
                refine wp_ret ?_
                replace hS := hS.drop 0
                replace hS := hS.drop 0
                replace hS := hS.drop 0
                replace hS := hS.drop 0
                replace hS := hS.drop 0
                replace hS := hS.drop 0
                replace hS := hS.drop 0
                replace hS := hS.drop 0
                cases hF
                refine hQ _ _ ?_
                refine lv Try.results9 hA rfl ?_
                exact ⟨rfl, hS⟩
              replace hF := iff' hb128 hF
              refine x_off hb128 hA (fun ac hA => ?_) rfl rfl rfl rfl rfl
              refine x_off hb128 hA (fun ac hA => ?_) rfl rfl rfl rfl rfl
              refine x_off hb128 hA (fun ac hA => ?_) rfl rfl rfl rfl rfl
              refine x_pickf hb128 hA (fun ac hA => ?_) rfl rfl rfl rfl rfl rfl
              refine x_move hA (fun ac hA => ?_) rfl rfl rfl rfl rfl
              refine x_off rfl hA (fun ac hA => ?_) rfl rfl rfl rfl rfl
              refine x_off rfl hA (fun ac hA => ?_) rfl rfl rfl rfl rfl
              refine x_off rfl hA (fun ac hA => ?_) rfl rfl rfl rfl rfl
              refine x_off rfl hA (fun ac hA => ?_) rfl rfl rfl rfl rfl
              refine x_off rfl hA (fun ac hA => ?_) rfl rfl rfl rfl rfl
              refine x_pickf rfl hA (fun ac hA => ?_) rfl rfl rfl rfl rfl rfl
              refine x_move hA (fun ac hA => ?_) rfl rfl rfl rfl rfl
              refine x_off rfl hA (fun ac hA => ?_) rfl rfl rfl rfl rfl
              refine x_off rfl hA (fun ac hA => ?_) rfl rfl rfl rfl rfl
              refine x_off rfl hA (fun ac hA => ?_) rfl rfl rfl rfl rfl
              refine x_pickf rfl hA (fun ac hA => ?_) rfl rfl rfl rfl rfl rfl
              refine x_move hA (fun ac hA => ?_) rfl rfl rfl rfl rfl
              refine x_off rfl hA (fun ac hA => ?_) rfl rfl rfl rfl rfl
              refine x_off rfl hA (fun ac hA => ?_) rfl rfl rfl rfl rfl
              refine x_off rfl hA (fun ac hA => ?_) rfl rfl rfl rfl rfl
              refine x_off rfl hA (fun ac hA => ?_) rfl rfl rfl rfl rfl
              refine x_off rfl hA (fun ac hA => ?_) rfl rfl rfl rfl rfl
              refine x_off rfl hA (fun ac hA => ?_) rfl rfl rfl rfl rfl
              refine x_off rfl hA (fun ac hA => ?_) rfl rfl rfl rfl rfl
              refine x_off rfl hA (fun ac hA => ?_) rfl rfl rfl rfl rfl
              refine x_off rfl hA (fun ac hA => ?_) rfl rfl rfl rfl rfl
              refine x_off rfl hA (fun ac hA => ?_) rfl rfl rfl rfl rfl
              refine x_pickf rfl hA (fun ac hA => ?_) rfl rfl rfl rfl rfl rfl
              refine x_assign hA (fun ac hA => ?_) rfl rfl rfl rfl rfl
              refine wpList_nil ?_
              refine hK109 _ _ ?_
              refine wp_ret ?_
              replace hS := hS.drop 0
              replace hS := hS.drop 0
              replace hS := hS.drop 0
              replace hS := hS.drop 0
              replace hS := hS.drop 0
              replace hS := hS.drop 0
              replace hS := hS.drop 0
              cases hF
              refine hQ _ _ ?_
              refine lv Try.results9 hA rfl ?_
              exact ⟨rfl, hS⟩
            replace hF := iff' hb125 hF
            refine x_off hb125 hA (fun ac hA => ?_) rfl rfl rfl rfl rfl
            refine x_off hb125 hA (fun ac hA => ?_) rfl rfl rfl rfl rfl
            refine x_off hb125 hA (fun ac hA => ?_) rfl rfl rfl rfl rfl
            refine x_off hb125 hA (fun ac hA => ?_) rfl rfl rfl rfl rfl
            refine x_pickf hb125 hA (fun ac hA => ?_) rfl rfl rfl rfl rfl rfl
            refine x_move hA (fun ac hA => ?_) rfl rfl rfl rfl rfl
            refine x_off rfl hA (fun ac hA => ?_) rfl rfl rfl rfl rfl
            refine x_off rfl hA (fun ac hA => ?_) rfl rfl rfl rfl rfl
            refine x_off rfl hA (fun ac hA => ?_) rfl rfl rfl rfl rfl
            refine x_pickf rfl hA (fun ac hA => ?_) rfl rfl rfl rfl rfl rfl
            refine x_move hA (fun ac hA => ?_) rfl rfl rfl rfl rfl
            refine x_off rfl hA (fun ac hA => ?_) rfl rfl rfl rfl rfl
            refine x_off rfl hA (fun ac hA => ?_) rfl rfl rfl rfl rfl
            refine x_off rfl hA (fun ac hA => ?_) rfl rfl rfl rfl rfl
            refine x_off rfl hA (fun ac hA => ?_) rfl rfl rfl rfl rfl
            refine x_off rfl hA (fun ac hA => ?_) rfl rfl rfl rfl rfl
            refine x_pickf rfl hA (fun ac hA => ?_) rfl rfl rfl rfl rfl rfl
            refine x_move hA (fun ac hA => ?_) rfl rfl rfl rfl rfl
            refine x_off rfl hA (fun ac hA => ?_) rfl rfl rfl rfl rfl
            refine x_off rfl hA (fun ac hA => ?_) rfl rfl rfl rfl rfl
            refine x_off rfl hA (fun ac hA => ?_) rfl rfl rfl rfl rfl
            refine x_pickf rfl hA (fun ac hA => ?_) rfl rfl rfl rfl rfl rfl
            refine x_move hA (fun ac hA => ?_) rfl rfl rfl rfl rfl
            refine x_off rfl hA (fun ac hA => ?_) rfl rfl rfl rfl rfl
            refine x_off rfl hA (fun ac hA => ?_) rfl rfl rfl rfl rfl
            refine x_off rfl hA (fun ac hA => ?_) rfl rfl rfl rfl rfl
            refine x_off rfl hA (fun ac hA => ?_) rfl rfl rfl rfl rfl
            refine x_off rfl hA (fun ac hA => ?_) rfl rfl rfl rfl rfl
            refine x_off rfl hA (fun ac hA => ?_) rfl rfl rfl rfl rfl
            refine x_off rfl hA (fun ac hA => ?_) rfl rfl rfl rfl rfl
            refine x_off rfl hA (fun ac hA => ?_) rfl rfl rfl rfl rfl
            refine x_off rfl hA (fun ac hA => ?_) rfl rfl rfl rfl rfl
            refine x_off rfl hA (fun ac hA => ?_) rfl rfl rfl rfl rfl
            refine x_pickf rfl hA (fun ac hA => ?_) rfl rfl rfl rfl rfl rfl
            refine x_assign hA (fun ac hA => ?_) rfl rfl rfl rfl rfl
            refine wpList_nil ?_
            refine hK109 _ _ ?_
            refine wp_ret ?_
            replace hS := hS.drop 0
            replace hS := hS.drop 0
            replace hS := hS.drop 0
            replace hS := hS.drop 0
            replace hS := hS.drop 0
            replace hS := hS.drop 0
            cases hF
            refine hQ _ _ ?_
            refine lv Try.results9 hA rfl ?_
            exact ⟨rfl, hS⟩
          replace hF := iff' hb122 hF
          refine x_off hb122 hA (fun ac hA => ?_) rfl rfl rfl rfl rfl
          refine x_off hb122 hA (fun ac hA => ?_) rfl rfl rfl rfl rfl
          refine x_off hb122 hA (fun ac hA => ?_) rfl rfl rfl rfl rfl
          refine x_off hb122 hA (fun ac hA => ?_) rfl rfl rfl rfl rfl
          refine x_off hb122 hA (fun ac hA => ?_) rfl rfl rfl rfl rfl
          refine x_pickf hb122 hA (fun ac hA => ?_) rfl rfl rfl rfl rfl rfl
          refine x_move hA (fun ac hA => ?_) rfl rfl rfl rfl rfl
          refine x_off rfl hA (fun ac hA => ?_) rfl rfl rfl rfl rfl
          refine x_off rfl hA (fun ac hA => ?_) rfl rfl rfl rfl rfl
          refine x_off rfl hA (fun ac hA => ?_) rfl rfl rfl rfl rfl
          refine x_off rfl hA (fun ac hA => ?_) rfl rfl rfl rfl rfl
          refine x_pickf rfl hA (fun ac hA => ?_) rfl rfl rfl rfl rfl rfl
          refine x_move hA (fun ac hA => ?_) rfl rfl rfl rfl rfl
          refine x_off rfl hA (fun ac hA => ?_) rfl rfl rfl rfl rfl
          refine x_off rfl hA (fun ac hA => ?_) rfl rfl rfl rfl rfl
          refine x_off rfl hA (fun ac hA => ?_) rfl rfl rfl rfl rfl
          refine x_pickf rfl hA (fun ac hA => ?_) rfl rfl rfl rfl rfl rfl
          refine x_move hA (fun ac hA => ?_) rfl rfl rfl rfl rfl
          refine x_off rfl hA (fun ac hA => ?_) rfl rfl rfl rfl rfl
          refine x_off rfl hA (fun ac hA => ?_) rfl rfl rfl rfl rfl
          refine x_off rfl hA (fun ac hA => ?_) rfl rfl rfl rfl rfl
          refine x_off rfl hA (fun ac hA => ?_) rfl rfl rfl rfl rfl
          refine x_off rfl hA (fun ac hA => ?_) rfl rfl rfl rfl rfl
          refine x_pickf rfl hA (fun ac hA => ?_) rfl rfl rfl rfl rfl rfl
          refine x_move hA (fun ac hA => ?_) rfl rfl rfl rfl rfl
          refine x_off rfl hA (fun ac hA => ?_) rfl rfl rfl rfl rfl
          refine x_off rfl hA (fun ac hA => ?_) rfl rfl rfl rfl rfl
          refine x_off rfl hA (fun ac hA => ?_) rfl rfl rfl rfl rfl
          refine x_pickf rfl hA (fun ac hA => ?_) rfl rfl rfl rfl rfl rfl
          refine x_move hA (fun ac hA => ?_) rfl rfl rfl rfl rfl
          refine x_off rfl hA (fun ac hA => ?_) rfl rfl rfl rfl rfl
          refine x_off rfl hA (fun ac hA => ?_) rfl rfl rfl rfl rfl
          refine x_off rfl hA (fun ac hA => ?_) rfl rfl rfl rfl rfl
          refine x_off rfl hA (fun ac hA => ?_) rfl rfl rfl rfl rfl
          refine x_off rfl hA (fun ac hA => ?_) rfl rfl rfl rfl rfl
          refine x_off rfl hA (fun ac hA => ?_) rfl rfl rfl rfl rfl
          refine x_off rfl hA (fun ac hA => ?_) rfl rfl rfl rfl rfl
          refine x_off rfl hA (fun ac hA => ?_) rfl rfl rfl rfl rfl
          refine x_off rfl hA (fun ac hA => ?_) rfl rfl rfl rfl rfl
          refine x_off rfl hA (fun ac hA => ?_) rfl rfl rfl rfl rfl
          refine x_pickf rfl hA (fun ac hA => ?_) rfl rfl rfl rfl rfl rfl
          refine x_assign hA (fun ac hA => ?_) rfl rfl rfl rfl rfl
          refine wpList_nil ?_
          refine hK109 _ _ ?_
          refine wp_ret ?_
          replace hS := hS.drop 0
          replace hS := hS.drop 0
          replace hS := hS.drop 0
          replace hS := hS.drop 0
          replace hS := hS.drop 0
          cases hF
          refine hQ _ _ ?_
          refine lv Try.results9 hA rfl ?_
          exact ⟨rfl, hS⟩
        replace hF := iff' hb119 hF
        refine x_off hb119 hA (fun ac hA => ?_) rfl rfl rfl rfl rfl
        refine x_off hb119 hA (fun ac hA => ?_) rfl rfl rfl rfl rfl
        refine x_off hb119 hA (fun ac hA => ?_) rfl rfl rfl rfl rfl
        refine x_off hb119 hA (fun ac hA => ?_) rfl rfl rfl rfl rfl
        refine x_pickf hb119 hA (fun ac hA => ?_) rfl rfl rfl rfl rfl rfl
        refine x_move hA (fun ac hA => ?_) rfl rfl rfl rfl rfl
        refine x_off rfl hA (fun ac hA => ?_) rfl rfl rfl rfl rfl
        refine x_off rfl hA (fun ac hA => ?_) rfl rfl rfl rfl rfl
        refine x_off rfl hA (fun ac hA => ?_) rfl rfl rfl rfl rfl
        refine x_off rfl hA (fun ac hA => ?_) rfl rfl rfl rfl rfl
        refine x_off rfl hA (fun ac hA => ?_) rfl rfl rfl rfl rfl
        refine x_pickf rfl hA (fun ac hA => ?_) rfl rfl rfl rfl rfl rfl
        refine x_move hA (fun ac hA => ?_) rfl rfl rfl rfl rfl
        refine x_off rfl hA (fun ac hA => ?_) rfl rfl rfl rfl rfl
        refine x_off rfl hA (fun ac hA => ?_) rfl rfl rfl rfl rfl
        refine x_off rfl hA (fun ac hA => ?_) rfl rfl rfl rfl rfl
        refine x_off rfl hA (fun ac hA => ?_) rfl rfl rfl rfl rfl
        refine x_pickf rfl hA (fun ac hA => ?_) rfl rfl rfl rfl rfl rfl
        refine x_move hA (fun ac hA => ?_) rfl rfl rfl rfl rfl
        refine x_off rfl hA (fun ac hA => ?_) rfl rfl rfl rfl rfl
        refine x_off rfl hA (fun ac hA => ?_) rfl rfl rfl rfl rfl
        refine x_off rfl hA (fun ac hA => ?_) rfl rfl rfl rfl rfl
        refine x_pickf rfl hA (fun ac hA => ?_) rfl rfl rfl rfl rfl rfl
        refine x_move hA (fun ac hA => ?_) rfl rfl rfl rfl rfl
        refine x_off rfl hA (fun ac hA => ?_) rfl rfl rfl rfl rfl
        refine x_off rfl hA (fun ac hA => ?_) rfl rfl rfl rfl rfl
        refine x_off rfl hA (fun ac hA => ?_) rfl rfl rfl rfl rfl
        refine x_off rfl hA (fun ac hA => ?_) rfl rfl rfl rfl rfl
        refine x_off rfl hA (fun ac hA => ?_) rfl rfl rfl rfl rfl
        refine x_pickf rfl hA (fun ac hA => ?_) rfl rfl rfl rfl rfl rfl
        refine x_move hA (fun ac hA => ?_) rfl rfl rfl rfl rfl
        refine x_off rfl hA (fun ac hA => ?_) rfl rfl rfl rfl rfl
        refine x_off rfl hA (fun ac hA => ?_) rfl rfl rfl rfl rfl
        refine x_off rfl hA (fun ac hA => ?_) rfl rfl rfl rfl rfl
        refine x_pickf rfl hA (fun ac hA => ?_) rfl rfl rfl rfl rfl rfl
        refine x_move hA (fun ac hA => ?_) rfl rfl rfl rfl rfl
        refine x_off rfl hA (fun ac hA => ?_) rfl rfl rfl rfl rfl
        refine x_off rfl hA (fun ac hA => ?_) rfl rfl rfl rfl rfl
        refine x_off rfl hA (fun ac hA => ?_) rfl rfl rfl rfl rfl
        refine x_off rfl hA (fun ac hA => ?_) rfl rfl rfl rfl rfl
        refine x_off rfl hA (fun ac hA => ?_) rfl rfl rfl rfl rfl
        refine x_off rfl hA (fun ac hA => ?_) rfl rfl rfl rfl rfl
        refine x_off rfl hA (fun ac hA => ?_) rfl rfl rfl rfl rfl
        refine x_off rfl hA (fun ac hA => ?_) rfl rfl rfl rfl rfl
        refine x_off rfl hA (fun ac hA => ?_) rfl rfl rfl rfl rfl
        refine x_off rfl hA (fun ac hA => ?_) rfl rfl rfl rfl rfl
        refine x_pickf rfl hA (fun ac hA => ?_) rfl rfl rfl rfl rfl rfl
        refine x_assign hA (fun ac hA => ?_) rfl rfl rfl rfl rfl
        refine wpList_nil ?_
        refine hK109 _ _ ?_
        refine wp_ret ?_
        replace hS := hS.drop 0
        replace hS := hS.drop 0
        replace hS := hS.drop 0
        replace hS := hS.drop 0
        cases hF
        refine hQ _ _ ?_
        refine lv Try.results9 hA rfl ?_
        exact ⟨rfl, hS⟩
      replace hF := iff' hb116 hF
      refine x_off hb116 hA (fun ac hA => ?_) rfl rfl rfl rfl rfl
      refine x_off hb116 hA (fun ac hA => ?_) rfl rfl rfl rfl rfl
      refine x_off hb116 hA (fun ac hA => ?_) rfl rfl rfl rfl rfl
      refine x_off hb116 hA (fun ac hA => ?_) rfl rfl rfl rfl rfl
      refine x_pickf hb116 hA (fun ac hA => ?_) rfl rfl rfl rfl rfl rfl
      refine x_move hA (fun ac hA => ?_) rfl rfl rfl rfl rfl
      refine x_off rfl hA (fun ac hA => ?_) rfl rfl rfl rfl rfl
      refine x_off rfl hA (fun ac hA => ?_) rfl rfl rfl rfl rfl
      refine x_off rfl hA (fun ac hA => ?_) rfl rfl rfl rfl rfl
      refine x_off rfl hA (fun ac hA => ?_) rfl rfl rfl rfl rfl
      refine x_pickf rfl hA (fun ac hA => ?_) rfl rfl rfl rfl rfl rfl
      refine x_move hA (fun ac hA => ?_) rfl rfl rfl rfl rfl
      refine x_off rfl hA (fun ac hA => ?_) rfl rfl rfl rfl rfl
      refine x_off rfl hA (fun ac hA => ?_) rfl rfl rfl rfl rfl
      refine x_off rfl hA (fun ac hA => ?_) rfl rfl rfl rfl rfl
      refine x_off rfl hA (fun ac hA => ?_) rfl rfl rfl rfl rfl
      refine x_off rfl hA (fun ac hA => ?_) rfl rfl rfl rfl rfl
      refine x_pickf rfl hA (fun ac hA => ?_) rfl rfl rfl rfl rfl rfl
      refine x_move hA (fun ac hA => ?_) rfl rfl rfl rfl rfl
      refine x_off rfl hA (fun ac hA => ?_) rfl rfl rfl rfl rfl
      refine x_off rfl hA (fun ac hA => ?_) rfl rfl rfl rfl rfl
      refine x_off rfl hA (fun ac hA => ?_) rfl rfl rfl rfl rfl
      refine x_off rfl hA (fun ac hA => ?_) rfl rfl rfl rfl rfl
      refine x_pickf rfl hA (fun ac hA => ?_) rfl rfl rfl rfl rfl rfl
      refine x_move hA (fun ac hA => ?_) rfl rfl rfl rfl rfl
      refine x_off rfl hA (fun ac hA => ?_) rfl rfl rfl rfl rfl
      refine x_off rfl hA (fun ac hA => ?_) rfl rfl rfl rfl rfl
      refine x_off rfl hA (fun ac hA => ?_) rfl rfl rfl rfl rfl
      refine x_pickf rfl hA (fun ac hA => ?_) rfl rfl rfl rfl rfl rfl
      refine x_move hA (fun ac hA => ?_) rfl rfl rfl rfl rfl
      refine x_off rfl hA (fun ac hA => ?_) rfl rfl rfl rfl rfl
      refine x_off rfl hA (fun ac hA => ?_) rfl rfl rfl rfl rfl
      refine x_off rfl hA (fun ac hA => ?_) rfl rfl rfl rfl rfl
      refine x_off rfl hA (fun ac hA => ?_) rfl rfl rfl rfl rfl
      refine x_off rfl hA (fun ac hA => ?_) rfl rfl rfl rfl rfl
      refine x_pickf rfl hA (fun ac hA => ?_) rfl rfl rfl rfl rfl rfl
      refine x_move hA (fun ac hA => ?_) rfl rfl rfl rfl rfl
      refine x_off rfl hA (fun ac hA => ?_) rfl rfl rfl rfl rfl
      refine x_off rfl hA (fun ac hA => ?_) rfl rfl rfl rfl rfl
      refine x_off rfl hA (fun ac hA => ?_) rfl rfl rfl rfl rfl
      refine x_pickf rfl hA (fun ac hA => ?_) rfl rfl rfl rfl rfl rfl
      refine x_move hA (fun ac hA => ?_) rfl rfl rfl rfl rfl
      refine x_off rfl hA (fun ac hA => ?_) rfl rfl rfl rfl rfl
      refine x_off rfl hA (fun ac hA => ?_) rfl rfl rfl rfl rfl
      refine x_off rfl hA (fun ac hA => ?_) rfl rfl rfl rfl rfl
      refine x_off rfl hA (fun ac hA => ?_) rfl rfl rfl rfl rfl
      refine x_off rfl hA (fun ac hA => ?_) rfl rfl rfl rfl rfl
      refine x_off rfl hA (fun ac hA => ?_) rfl rfl rfl rfl rfl
      refine x_off rfl hA (fun ac hA => ?_) rfl rfl rfl rfl rfl
      refine x_off rfl hA (fun ac hA => ?_) rfl rfl rfl rfl rfl
      refine x_off rfl hA (fun ac hA => ?_) rfl rfl rfl rfl rfl
      refine x_off rfl hA (fun ac hA => ?_) rfl rfl rfl rfl rfl
      refine x_pickf rfl hA (fun ac hA => ?_) rfl rfl rfl rfl rfl rfl
      refine x_assign hA (fun ac hA => ?_) rfl rfl rfl rfl rfl
      refine wpList_nil ?_
      refine hK109 _ _ ?_
      refine wp_ret ?_
      replace hS := hS.drop 0
      replace hS := hS.drop 0
      replace hS := hS.drop 0
      cases hF
      refine hQ _ _ ?_
      refine lv Try.results9 hA rfl ?_
      exact ⟨rfl, hS⟩
    replace hF := iff' hb113 hF
    refine x_off hb113 hA (fun ac hA => ?_) rfl rfl rfl rfl rfl
    refine x_off hb113 hA (fun ac hA => ?_) rfl rfl rfl rfl rfl
    refine x_off hb113 hA (fun ac hA => ?_) rfl rfl rfl rfl rfl
    refine x_off hb113 hA (fun ac hA => ?_) rfl rfl rfl rfl rfl
    refine x_off hb113 hA (fun ac hA => ?_) rfl rfl rfl rfl rfl
    refine x_pickf hb113 hA (fun ac hA => ?_) rfl rfl rfl rfl rfl rfl
    refine x_move hA (fun ac hA => ?_) rfl rfl rfl rfl rfl
    refine x_off rfl hA (fun ac hA => ?_) rfl rfl rfl rfl rfl
    refine x_off rfl hA (fun ac hA => ?_) rfl rfl rfl rfl rfl
    refine x_off rfl hA (fun ac hA => ?_) rfl rfl rfl rfl rfl
    refine x_off rfl hA (fun ac hA => ?_) rfl rfl rfl rfl rfl
    refine x_pickf rfl hA (fun ac hA => ?_) rfl rfl rfl rfl rfl rfl
    refine x_move hA (fun ac hA => ?_) rfl rfl rfl rfl rfl
    refine x_off rfl hA (fun ac hA => ?_) rfl rfl rfl rfl rfl
    refine x_off rfl hA (fun ac hA => ?_) rfl rfl rfl rfl rfl
    refine x_off rfl hA (fun ac hA => ?_) rfl rfl rfl rfl rfl
    refine x_off rfl hA (fun ac hA => ?_) rfl rfl rfl rfl rfl
    refine x_pickf rfl hA (fun ac hA => ?_) rfl rfl rfl rfl rfl rfl
    refine x_move hA (fun ac hA => ?_) rfl rfl rfl rfl rfl
    refine x_off rfl hA (fun ac hA => ?_) rfl rfl rfl rfl rfl
    refine x_off rfl hA (fun ac hA => ?_) rfl rfl rfl rfl rfl
    refine x_off rfl hA (fun ac hA => ?_) rfl rfl rfl rfl rfl
    refine x_off rfl hA (fun ac hA => ?_) rfl rfl rfl rfl rfl
    refine x_off rfl hA (fun ac hA => ?_) rfl rfl rfl rfl rfl
    refine x_pickf rfl hA (fun ac hA => ?_) rfl rfl rfl rfl rfl rfl
    refine x_move hA (fun ac hA => ?_) rfl rfl rfl rfl rfl
    refine x_off rfl hA (fun ac hA => ?_) rfl rfl rfl rfl rfl
    refine x_off rfl hA (fun ac hA => ?_) rfl rfl rfl rfl rfl
    refine x_off rfl hA (fun ac hA => ?_) rfl rfl rfl rfl rfl
    refine x_off rfl hA (fun ac hA => ?_) rfl rfl rfl rfl rfl
    refine x_pickf rfl hA (fun ac hA => ?_) rfl rfl rfl rfl rfl rfl
    refine x_move hA (fun ac hA => ?_) rfl rfl rfl rfl rfl
    refine x_off rfl hA (fun ac hA => ?_) rfl rfl rfl rfl rfl
    refine x_off rfl hA (fun ac hA => ?_) rfl rfl rfl rfl rfl
    refine x_off rfl hA (fun ac hA => ?_) rfl rfl rfl rfl rfl
    refine x_pickf rfl hA (fun ac hA => ?_) rfl rfl rfl rfl rfl rfl
    refine x_move hA (fun ac hA => ?_) rfl rfl rfl rfl rfl
    refine x_off rfl hA (fun ac hA => ?_) rfl rfl rfl rfl rfl
    refine x_off rfl hA (fun ac hA => ?_) rfl rfl rfl rfl rfl
    refine x_off rfl hA (fun ac hA => ?_) rfl rfl rfl rfl rfl
    refine x_off rfl hA (fun ac hA => ?_) rfl rfl rfl rfl rfl
    refine x_off rfl hA (fun ac hA => ?_) rfl rfl rfl rfl rfl
    refine x_pickf rfl hA (fun ac hA => ?_) rfl rfl rfl rfl rfl rfl
    refine x_move hA (fun ac hA => ?_) rfl rfl rfl rfl rfl
    refine x_off rfl hA (fun ac hA => ?_) rfl rfl rfl rfl rfl
    refine x_off rfl hA (fun ac hA => ?_) rfl rfl rfl rfl rfl
    refine x_off rfl hA (fun ac hA => ?_) rfl rfl rfl rfl rfl
    refine x_pickf rfl hA (fun ac hA => ?_) rfl rfl rfl rfl rfl rfl
    refine x_move hA (fun ac hA => ?_) rfl rfl rfl rfl rfl
    refine x_off rfl hA (fun ac hA => ?_) rfl rfl rfl rfl rfl
    refine x_off rfl hA (fun ac hA => ?_) rfl rfl rfl rfl rfl
    refine x_off rfl hA (fun ac hA => ?_) rfl rfl rfl rfl rfl
    refine x_off rfl hA (fun ac hA => ?_) rfl rfl rfl rfl rfl
    refine x_off rfl hA (fun ac hA => ?_) rfl rfl rfl rfl rfl
    refine x_off rfl hA (fun ac hA => ?_) rfl rfl rfl rfl rfl
    refine x_off rfl hA (fun ac hA => ?_) rfl rfl rfl rfl rfl
    refine x_off rfl hA (fun ac hA => ?_) rfl rfl rfl rfl rfl
    refine x_off rfl hA (fun ac hA => ?_) rfl rfl rfl rfl rfl
    refine x_off rfl hA (fun ac hA => ?_) rfl rfl rfl rfl rfl
    refine x_pickf rfl hA (fun ac hA => ?_) rfl rfl rfl rfl rfl rfl
    refine x_assign hA (fun ac hA => ?_) rfl rfl rfl rfl rfl
    refine wpList_nil ?_
    refine hK109 _ _ ?_
    refine wp_ret ?_
    replace hS := hS.drop 0
    replace hS := hS.drop 0
    cases hF
    refine hQ _ _ ?_
    refine lv Try.results9 hA rfl ?_
    exact ⟨rfl, hS⟩
  replace hF := iff' hb112 hF
  refine x_off hb112 hA (fun ac hA => ?_) rfl rfl rfl rfl rfl
  refine x_off hb112 hA (fun ac hA => ?_) rfl rfl rfl rfl rfl
  refine x_pickf hb112 hA (fun ac hA => ?_) rfl rfl rfl rfl rfl rfl
  refine x_move hA (fun ac hA => ?_) rfl rfl rfl rfl rfl
  refine x_off rfl hA (fun ac hA => ?_) rfl rfl rfl rfl rfl
  refine x_off rfl hA (fun ac hA => ?_) rfl rfl rfl rfl rfl
  refine x_off rfl hA (fun ac hA => ?_) rfl rfl rfl rfl rfl
  refine x_off rfl hA (fun ac hA => ?_) rfl rfl rfl rfl rfl
  refine x_off rfl hA (fun ac hA => ?_) rfl rfl rfl rfl rfl
  refine x_pickf rfl hA (fun ac hA => ?_) rfl rfl rfl rfl rfl rfl
  refine x_move hA (fun ac hA => ?_) rfl rfl rfl rfl rfl
  refine x_off rfl hA (fun ac hA => ?_) rfl rfl rfl rfl rfl
  refine x_off rfl hA (fun ac hA => ?_) rfl rfl rfl rfl rfl
  refine x_off rfl hA (fun ac hA => ?_) rfl rfl rfl rfl rfl
  refine x_off rfl hA (fun ac hA => ?_) rfl rfl rfl rfl rfl
  refine x_pickf rfl hA (fun ac hA => ?_) rfl rfl rfl rfl rfl rfl
  refine x_move hA (fun ac hA => ?_) rfl rfl rfl rfl rfl
  refine x_off rfl hA (fun ac hA => ?_) rfl rfl rfl rfl rfl
  refine x_off rfl hA (fun ac hA => ?_) rfl rfl rfl rfl rfl
  refine x_off rfl hA (fun ac hA => ?_) rfl rfl rfl rfl rfl
  refine x_off rfl hA (fun ac hA => ?_) rfl rfl rfl rfl rfl
  refine x_pickf rfl hA (fun ac hA => ?_) rfl rfl rfl rfl rfl rfl
  refine x_move hA (fun ac hA => ?_) rfl rfl rfl rfl rfl
  refine x_off rfl hA (fun ac hA => ?_) rfl rfl rfl rfl rfl
  refine x_off rfl hA (fun ac hA => ?_) rfl rfl rfl rfl rfl
  refine x_off rfl hA (fun ac hA => ?_) rfl rfl rfl rfl rfl
  refine x_off rfl hA (fun ac hA => ?_) rfl rfl rfl rfl rfl
  refine x_off rfl hA (fun ac hA => ?_) rfl rfl rfl rfl rfl
  refine x_pickf rfl hA (fun ac hA => ?_) rfl rfl rfl rfl rfl rfl
  refine x_move hA (fun ac hA => ?_) rfl rfl rfl rfl rfl
  refine x_off rfl hA (fun ac hA => ?_) rfl rfl rfl rfl rfl
  refine x_off rfl hA (fun ac hA => ?_) rfl rfl rfl rfl rfl
  refine x_off rfl hA (fun ac hA => ?_) rfl rfl rfl rfl rfl
  refine x_off rfl hA (fun ac hA => ?_) rfl rfl rfl rfl rfl
  refine x_pickf rfl hA (fun ac hA => ?_) rfl rfl rfl rfl rfl rfl
  refine x_move hA (fun ac hA => ?_) rfl rfl rfl rfl rfl
  refine x_off rfl hA (fun ac hA => ?_) rfl rfl rfl rfl rfl
  refine x_off rfl hA (fun ac hA => ?_) rfl rfl rfl rfl rfl
  refine x_off rfl hA (fun ac hA => ?_) rfl rfl rfl rfl rfl
  refine x_pickf rfl hA (fun ac hA => ?_) rfl rfl rfl rfl rfl rfl
  refine x_move hA (fun ac hA => ?_) rfl rfl rfl rfl rfl
  refine x_off rfl hA (fun ac hA => ?_) rfl rfl rfl rfl rfl
  refine x_off rfl hA (fun ac hA => ?_) rfl rfl rfl rfl rfl
  refine x_off rfl hA (fun ac hA => ?_) rfl rfl rfl rfl rfl
  refine x_off rfl hA (fun ac hA => ?_) rfl rfl rfl rfl rfl
  refine x_off rfl hA (fun ac hA => ?_) rfl rfl rfl rfl rfl
  refine x_pickf rfl hA (fun ac hA => ?_) rfl rfl rfl rfl rfl rfl
  refine x_move hA (fun ac hA => ?_) rfl rfl rfl rfl rfl
  refine x_off rfl hA (fun ac hA => ?_) rfl rfl rfl rfl rfl
  refine x_off rfl hA (fun ac hA => ?_) rfl rfl rfl rfl rfl
  refine x_off rfl hA (fun ac hA => ?_) rfl rfl rfl rfl rfl
  refine x_pickf rfl hA (fun ac hA => ?_) rfl rfl rfl rfl rfl rfl
  refine x_move hA (fun ac hA => ?_) rfl rfl rfl rfl rfl
  refine x_off rfl hA (fun ac hA => ?_) rfl rfl rfl rfl rfl
  refine x_off rfl hA (fun ac hA => ?_) rfl rfl rfl rfl rfl
  refine x_off rfl hA (fun ac hA => ?_) rfl rfl rfl rfl rfl
  refine x_off rfl hA (fun ac hA => ?_) rfl rfl rfl rfl rfl
  refine x_off rfl hA (fun ac hA => ?_) rfl rfl rfl rfl rfl
  refine x_off rfl hA (fun ac hA => ?_) rfl rfl rfl rfl rfl
  refine x_off rfl hA (fun ac hA => ?_) rfl rfl rfl rfl rfl
  refine x_off rfl hA (fun ac hA => ?_) rfl rfl rfl rfl rfl
  refine x_off rfl hA (fun ac hA => ?_) rfl rfl rfl rfl rfl
  refine x_off rfl hA (fun ac hA => ?_) rfl rfl rfl rfl rfl
  refine x_pickf rfl hA (fun ac hA => ?_) rfl rfl rfl rfl rfl rfl
  refine x_assign hA (fun ac hA => ?_) rfl rfl rfl rfl rfl
  refine wpList_nil ?_
  refine hK109 _ _ ?_
  refine wp_ret ?_
  replace hS := hS.drop 0
  replace hS := hS.drop 0
  cases hF
  refine hQ _ _ ?_
  refine lv Try.results9 hA rfl ?_
  exact ⟨rfl, hS⟩
end Go.Proofs.Ytgjhiojkkjaloaa.M
