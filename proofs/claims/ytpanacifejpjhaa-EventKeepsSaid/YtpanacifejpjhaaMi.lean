/- The calls come to the plain functions. -/
import Derived.Test.YtpanacifejpjhaaMh
import Derived.Test.YtpanacifejpjhaaDi
namespace Go.Proofs.Ytpanacifejpjhaa.M
open Go Go.RowKit Go.Proofs.Ytpanacifejpjhaa.E
set_option linter.unusedVariables false
set_option linter.unusedSimpArgs false

set_option maxHeartbeats 4000000 in
theorem F_law06_EventSorts {r : World} {L : List HP} {w : World} (a0 : (List S30)) (A0 : Option Addr) (n0 : Nat) (c0 : Nat) {y : (Bool)} (hF : law06_EventSorts a0 = some y) (ha0 : RdL L k30 A0 n0 c0 a0) (hS : SH r (L) w) :
    Ret Try.prog 7 #[.slice A0 n0 c0] w fun v w' => v = .bool y ∧ SH r (L) w' := by
  refine enter Try.func7 rfl Try.ntmps7 [(0, .slice A0 n0 c0)] rfl (by simp) ?_
  intro ac hA Qf hQ hQn
  unfold law06_EventSorts at hF
  refine wp_seq_k fun K101 hK101 => ?_
  refine wp_reg ?_
  refine x_assign hA (fun ac hA => ?_) rfl rfl rfl rfl rfl
  refine wpList_nil ?_
  refine hK101 _ _ ?_
  refine wp_seq_k fun K102 hK102 => ?_
  refine wp_seq_k fun K103 hK103 => ?_
  have hj1 : ∀ (b107 : Bool), law06_EventSorts_j1 a0 b107 = some y → ∀ (ac : Act) (w : World), FR 16 [] ac [(0, .slice A0 n0 c0), (9, .bool b107)] → SH r (L) w → K103 ac w := by
    intro b107 hF ac w hA hS
    unfold law06_EventSorts_j1 at hF
    refine hK103 _ _ ?_
    refine c_if hA rfl (fun hb108 => ?_) fun hb108 => ?_
    · replace hF := ift hb108 hF
      refine wp_seq_k fun K109 hK109 => ?_
      refine wp_reg ?_
      obtain ⟨y110, h111, hF⟩ := bnd hF
      refine x_call en19 hA (F_law06_awake (L := L) h111 hS) (fun v ac w hR hA => ?_) rfl rfl rfl rfl rfl
      obtain ⟨rfl, hS⟩ := hR
      refine x_assign hA (fun ac hA => ?_) rfl rfl rfl rfl rfl
      refine wpList_nil ?_
      refine hK109 _ _ ?_
      refine wp_ret ?_
      cases hF
      refine hQ _ _ ?_
      refine lv Try.results7 hA rfl ?_
      exact ⟨rfl, hS⟩
    replace hF := iff' hb108 hF
    refine wp_skip ?_
    refine hK102 _ _ ?_
    refine wp_seq_k fun K112 hK112 => ?_
    refine wp_reg ?_
    refine x_move hA (fun ac hA => ?_) rfl rfl rfl rfl rfl
    obtain ⟨y113, h114, hF⟩ := bnd hF
    refine x_call en20 hA (F_event_Sort (L := L) a0 A0 n0 c0 h114 (RdL.sfx 0 rfl ha0) hS) (fun v ac w hR hA => ?_) rfl rfl rfl rfl rfl
    obtain ⟨B115, m116, d117, rfl, hS⟩ := hR
    refine x_move hA (fun ac hA => ?_) rfl rfl rfl rfl rfl
    obtain ⟨y118, h119, hF⟩ := bnd hF
    refine x_call en15 hA (F_r06_Sort (L := own k30 30 B115 m116 d117 y113 :: L) a0 A0 n0 c0 h119 (RdL.sfx 1 rfl ha0) hS) (fun v ac w hR hA => ?_) rfl rfl rfl rfl rfl
    obtain ⟨B120, m121, d122, rfl, hS⟩ := hR
    obtain ⟨y123, h124, hF⟩ := bnd hF
    refine x_call en16 hA (F_r06_SameAll (L := own k30 30 B120 m121 d122 y118 :: own k30 30 B115 m116 d117 y113 :: L) y113 y118 B115 m116 d117 B120 m121 d122 h124 (RdL.own 1 rfl (hS.dropN 0)) (RdL.own 0 rfl (hS.dropN 0)) hS) (fun v ac w hR hA => ?_) rfl rfl rfl rfl rfl
    obtain ⟨rfl, hS⟩ := hR
    refine x_assign hA (fun ac hA => ?_) rfl rfl rfl rfl rfl
    refine wpList_nil ?_
    refine hK112 _ _ ?_
    refine wp_ret ?_
    replace hS := hS.drop 0
    replace hS := hS.drop 0
    cases hF
    refine hQ _ _ ?_
    refine lv Try.results7 hA rfl ?_
    exact ⟨rfl, hS⟩
  refine wp_reg ?_
  obtain ⟨y125, h126, hF⟩ := bnd hF
  refine x_call en19 hA (F_law06_awake (L := L) h126 hS) (fun v ac w hR hA => ?_) rfl rfl rfl rfl rfl
  obtain ⟨rfl, hS⟩ := hR
  refine x_val hA (r_not rfl (hA.ev rfl)) (fun ac hA => ?_) rfl rfl rfl
  refine x_move hA (fun ac hA => ?_) rfl rfl rfl rfl rfl
  refine bcase (b := !y125) (fun hb127 => ?_) fun hb127 => ?_
  · replace hF := ift hb127 hF
    refine x_off hb127 hA (fun ac hA => ?_) rfl rfl rfl rfl rfl
    refine x_off hb127 hA (fun ac hA => ?_) rfl rfl rfl rfl rfl
    refine x_off hb127 hA (fun ac hA => ?_) rfl rfl rfl rfl rfl
    refine x_pickt hb127 hA (fun ac hA => ?_) rfl rfl rfl rfl rfl rfl
    refine wpList_nil ?_
    exact hj1 true hF ac w (hA.sub _ rfl) hS
  replace hF := iff' hb127 hF
  refine x_on hb127 hA ?_ rfl rfl rfl
  refine x_move hA (fun ac hA => ?_) rfl rfl rfl rfl rfl
  refine x_on hb127 hA ?_ rfl rfl rfl
  refine x_len Try.underlying25 (hS.rdl 0 ha0 rfl).2.1 hA (fun ac hA => ?_) rfl rfl rfl rfl rfl
  refine x_on hb127 hA ?_ rfl rfl rfl
  refine x_val hA (r_gtI rfl (hA.ev rfl) (hA.ev rfl)) (fun ac hA => ?_) rfl rfl rfl
  refine x_pickf hb127 hA (fun ac hA => ?_) rfl rfl rfl rfl rfl rfl
  refine wpList_nil ?_
  exact hj1 (decide (60 < (a0.length : Int))) hF ac w (hA.sub _ rfl) hS

set_option maxHeartbeats 4000000 in
theorem F_law06_EventKeeps {r : World} {L : List HP} {w : World} (a0 : (List S30)) (A0 : Option Addr) (n0 : Nat) (c0 : Nat) {y : (Bool)} (hF : law06_EventKeeps a0 = some y) (ha0 : RdL L k30 A0 n0 c0 a0) (hS : SH r (L) w) :
    Ret Try.prog 8 #[.slice A0 n0 c0] w fun v w' => v = .bool y ∧ SH r (L) w' := by
  refine enter Try.func8 rfl Try.ntmps8 [(0, .slice A0 n0 c0)] rfl (by simp) ?_
  intro ac hA Qf hQ hQn
  unfold law06_EventKeeps at hF
  refine wp_seq_k fun K101 hK101 => ?_
  refine wp_reg ?_
  refine x_assign hA (fun ac hA => ?_) rfl rfl rfl rfl rfl
  refine wpList_nil ?_
  refine hK101 _ _ ?_
  refine wp_seq_k fun K102 hK102 => ?_
  refine wp_seq_k fun K103 hK103 => ?_
  have hj1 : ∀ (b107 : Bool), law06_EventKeeps_j1 a0 b107 = some y → ∀ (ac : Act) (w : World), FR 32 [] ac [(0, .slice A0 n0 c0), (12, .bool b107)] → SH r (L) w → K103 ac w := by
    intro b107 hF ac w hA hS
    unfold law06_EventKeeps_j1 at hF
    refine hK103 _ _ ?_
    refine c_if hA rfl (fun hb108 => ?_) fun hb108 => ?_
    · replace hF := ift hb108 hF
      refine wp_seq_k fun K109 hK109 => ?_
      refine wp_reg ?_
      obtain ⟨y110, h111, hF⟩ := bnd hF
      refine x_call en19 hA (F_law06_awake (L := L) h111 hS) (fun v ac w hR hA => ?_) rfl rfl rfl rfl rfl
      obtain ⟨rfl, hS⟩ := hR
      refine x_assign hA (fun ac hA => ?_) rfl rfl rfl rfl rfl
      refine wpList_nil ?_
      refine hK109 _ _ ?_
      refine wp_ret ?_
      cases hF
      refine hQ _ _ ?_
      refine lv Try.results8 hA rfl ?_
      exact ⟨rfl, hS⟩
    replace hF := iff' hb108 hF
    refine wp_skip ?_
    refine hK102 _ _ ?_
    refine wp_seq_k fun K112 hK112 => ?_
    refine wp_reg ?_
    refine x_assign hA (fun ac hA => ?_) rfl rfl rfl rfl rfl
    refine wpList_nil ?_
    refine hK112 _ _ ?_
    refine wp_seq_k fun K113 hK113 => ?_
    refine wp_reg ?_
    refine x_move hA (fun ac hA => ?_) rfl rfl rfl rfl rfl
    refine x_move hA (fun ac hA => ?_) rfl rfl rfl rfl rfl
    replace hS := SH.nil_own (d := k30) (e := 30) hS
    obtain ⟨h114, hF⟩ := chk_some hF
    have hr := hS.rdl 1 ha0 rfl
    refine x_app 0 inf30 Try.underlying25 hA hS hr.1 hr.2.1 h114 rfl (fun A115 n116 c117 ac w hS hA => ?_) rfl rfl rfl rfl rfl rfl rfl rfl rfl
    rw [List.nil_append] at hS
    refine x_assign hA (fun ac hA => ?_) rfl rfl rfl rfl rfl
    refine wpList_nil ?_
    refine hK113 _ _ ?_
    refine wp_seq_k fun K118 hK118 => ?_
    refine wp_reg ?_
    refine x_move hA (fun ac hA => ?_) rfl rfl rfl rfl rfl
    obtain ⟨y119, h120, hF⟩ := bnd hF
    refine x_call en20 hA (F_event_Sort (L := own k30 30 A115 n116 c117 a0 :: L) a0 A0 n0 c0 h120 (RdL.sfx 1 rfl ha0) hS) (fun v ac w hR hA => ?_) rfl rfl rfl rfl rfl
    obtain ⟨B121, m122, d123, rfl, hS⟩ := hR
    refine x_assign hA (fun ac hA => ?_) rfl rfl rfl rfl rfl
    refine wpList_nil ?_
    refine hK118 _ _ ?_
    refine wp_seq_k fun K124 hK124 => ?_
    refine wp_seq_k fun K184 hK184 => ?_
    refine wp_reg ?_
    refine x_assign hA (fun ac hA => ?_) rfl rfl rfl rfl rfl
    refine wpList_nil ?_
    refine hK184 _ _ ?_
    refine wp_block_k fun Kx185 hKx185 => ?_
    have hb1 : law06_EventKeeps_b1 a0 = some y → ∀ (ac : Act) (w : World), FR 32 [] ac [(0, .slice A0 n0 c0), (3, .slice A115 n116 c117)] → SH r (own k30 30 A115 n116 c117 a0 :: L) w → Kx185 ac w := by
      intro hF ac w hA hS
      unfold law06_EventKeeps_b1 at hF
      refine hKx185 _ _ ?_
      refine hK124 _ _ ?_
      refine wp_seq_k fun K214 hK214 => ?_
      refine wp_reg ?_
      refine x_move hA (fun ac hA => ?_) rfl rfl rfl rfl rfl
      refine x_move hA (fun ac hA => ?_) rfl rfl rfl rfl rfl
      obtain ⟨y215, h216, hF⟩ := bnd hF
      refine x_call en16 hA (F_r06_SameAll (L := own k30 30 A115 n116 c117 a0 :: L) a0 a0 A0 n0 c0 A115 n116 c117 h216 (RdL.sfx 1 rfl ha0) (RdL.own 0 rfl (hS.dropN 0)) hS) (fun v ac w hR hA => ?_) rfl rfl rfl rfl rfl
      obtain ⟨rfl, hS⟩ := hR
      refine x_assign hA (fun ac hA => ?_) rfl rfl rfl rfl rfl
      refine wpList_nil ?_
      refine hK214 _ _ ?_
      refine wp_ret ?_
      replace hS := hS.drop 0
      cases hF
      refine hQ _ _ ?_
      refine lv Try.results8 hA rfl ?_
      exact ⟨rfl, hS⟩
    obtain ⟨t236, hl236, hF⟩ := bnd hF
    have hx236_0 : () = t236 → ∀ (ac : Act) (w : World), FR 32 [] ac [(0, .slice A0 n0 c0), (3, .slice A115 n116 c117)] → SH r (own k30 30 A115 n116 c117 a0 :: L) w → Kx185 ac w := by
      intro ht ac w hA hS
      subst ht
      replace hF : law06_EventKeeps_x1_0 a0 = some y := hF
      unfold law06_EventKeeps_x1_0 at hF
      exact hb1 hF ac w (hA.sub _ rfl) hS
    replace hS := hS.pk 1
    refine wp_loop_fn hl236 (fun s ac w => FR 32 [] ac [(0, .slice A0 n0 c0), (3, .slice A115 n116 c117), (4, .slice B121 m122 d123), (5, .int .i64 s.2)] ∧ SH r (own k30 30 A115 n116 c117 a0 :: own k30 30 B121 m122 d123 s.1 :: L) w) ⟨hA.sub _ rfl, hS⟩ ?_
    intro N236 s236 o236 hF N236_ T236_ ac w hLab
    obtain ⟨l226, x227⟩ := s236
    replace hF : law06_EventKeeps_l1 l226 x227 = some o236 := hF
    unfold law06_EventKeeps_l1 at hF
    try dsimp only at hLab
    obtain ⟨hA, hS⟩ := hLab
    refine wp_seq_k fun K238 hK238 => ?_
    refine wp_seq_k fun K239 hK239 => ?_
    refine wp_reg ?_
    refine x_move hA (fun ac hA => ?_) rfl rfl rfl rfl rfl
    refine x_move hA (fun ac hA => ?_) rfl rfl rfl rfl rfl
    refine x_len Try.underlying25 (hS.rd 1 rfl).2.1 hA (fun ac hA => ?_) rfl rfl rfl rfl rfl
    refine x_val hA (r_ltI rfl (hA.ev rfl) (hA.ev rfl)) (fun ac hA => ?_) rfl rfl rfl
    refine wpList_nil ?_
    refine hK239 _ _ ?_
    refine c_if hA rfl (fun hb240 => ?_) fun hb240 => ?_
    · replace hF := ift hb240 hF
      refine wp_skip ?_
      refine hK238 _ _ ?_
      refine wp_seq_k fun K241 hK241 => ?_
      refine wp_block_k fun Kx242 hKx242 => ?_
      refine wp_reg ?_
      refine x_move hA (fun ac hA => ?_) rfl rfl rfl rfl rfl
      refine x_move hA (fun ac hA => ?_) rfl rfl rfl rfl rfl
      obtain ⟨x243, h244, hF⟩ := bnd hF
      refine x_ia Try.underlying25 sz30 (hS.rd 1 rfl) h244 hA (fun ac hA => ?_) rfl rfl rfl rfl rfl rfl
      refine x_fae fa30_3 hA (fun ac hA => ?_) rfl rfl rfl rfl rfl
      refine x_sto (z' := (⟨x243.f0, x243.f1, x243.f2, [120], x243.f4⟩ : S30)) (off := 3) (vs := [str [120]]) 1 sz9 hA hS rfl (at_some h244).2.2 (fun c h => by cases h; rfl) (fun  ac w hS hA => ?_) rfl rfl rfl rfl rfl rfl rfl rfl
      refine wpList_nil ?_
      refine hKx242 _ _ ?_
      refine hK241 _ _ ?_
      refine wp_reg ?_
      refine x_move hA (fun ac hA => ?_) rfl rfl rfl rfl rfl
      refine x_val hA (r_add rfl (hA.ev rfl) (hA.ev rfl)) (fun ac hA => ?_) rfl rfl rfl
      refine x_assign hA (fun ac hA => ?_) rfl rfl rfl rfl rfl
      refine wpList_nil ?_
      replace hS := hS.pk 1
      cases hF
      exact ⟨_, N236_ _ rfl, hA.sub _ rfl, hS⟩
    replace hF := iff' hb240 hF
    refine wp_exit ?_
    replace hS := hS.drop 1
    cases hF
    exact hx236_0 (T236_ _ rfl) ac w (hA.sub _ rfl) hS
  refine wp_reg ?_
  obtain ⟨y245, h246, hF⟩ := bnd hF
  refine x_call en19 hA (F_law06_awake (L := L) h246 hS) (fun v ac w hR hA => ?_) rfl rfl rfl rfl rfl
  obtain ⟨rfl, hS⟩ := hR
  refine x_val hA (r_not rfl (hA.ev rfl)) (fun ac hA => ?_) rfl rfl rfl
  refine x_move hA (fun ac hA => ?_) rfl rfl rfl rfl rfl
  refine bcase (b := !y245) (fun hb247 => ?_) fun hb247 => ?_
  · replace hF := ift hb247 hF
    refine x_off hb247 hA (fun ac hA => ?_) rfl rfl rfl rfl rfl
    refine x_off hb247 hA (fun ac hA => ?_) rfl rfl rfl rfl rfl
    refine x_off hb247 hA (fun ac hA => ?_) rfl rfl rfl rfl rfl
    refine x_pickt hb247 hA (fun ac hA => ?_) rfl rfl rfl rfl rfl rfl
    refine wpList_nil ?_
    exact hj1 true hF ac w (hA.sub _ rfl) hS
  replace hF := iff' hb247 hF
  refine x_on hb247 hA ?_ rfl rfl rfl
  refine x_move hA (fun ac hA => ?_) rfl rfl rfl rfl rfl
  refine x_on hb247 hA ?_ rfl rfl rfl
  refine x_len Try.underlying25 (hS.rdl 0 ha0 rfl).2.1 hA (fun ac hA => ?_) rfl rfl rfl rfl rfl
  refine x_on hb247 hA ?_ rfl rfl rfl
  refine x_val hA (r_gtI rfl (hA.ev rfl) (hA.ev rfl)) (fun ac hA => ?_) rfl rfl rfl
  refine x_pickf hb247 hA (fun ac hA => ?_) rfl rfl rfl rfl rfl rfl
  refine wpList_nil ?_
  exact hj1 (decide (60 < (a0.length : Int))) hF ac w (hA.sub _ rfl) hS
end Go.Proofs.Ytpanacifejpjhaa.M
