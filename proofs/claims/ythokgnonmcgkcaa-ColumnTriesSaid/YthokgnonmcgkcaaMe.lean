/- The calls come to the plain functions. -/
import Derived.Test.YthokgnonmcgkcaaMd
import Derived.Test.YthokgnonmcgkcaaDe
namespace Go.Proofs.Ythokgnonmcgkcaa.M
open Go Go.RowKit Go.Proofs.Ythokgnonmcgkcaa.E
set_option linter.unusedVariables false
set_option linter.unusedSimpArgs false

set_option maxHeartbeats 4000000 in
theorem F_law03_ints {r : World} {L : List HP} {w : World} (a0 : (List Int)) (a1 : (List Int)) (A0 : Option Addr) (n0 : Nat) (c0 : Nat) (A1 : Option Addr) (n1 : Nat) (c1 : Nat) {y : (Bool)} (hF : law03_ints a0 a1 = some y) (ha0 : RdL L (kI .i64) A0 n0 c0 a0) (ha1 : RdL L (kI .i64) A1 n1 c1 a1) (hS : SH r (L) w) :
    Ret Try.prog 27 #[.slice A0 n0 c0, .slice A1 n1 c1] w fun v w' => v = .bool y ∧ SH r (L) w' := by
  refine enter Try.func27 rfl Try.ntmps27 [(0, .slice A0 n0 c0), (1, .slice A1 n1 c1)] rfl (by simp) ?_
  intro ac hA Qf hQ hQn
  unfold law03_ints at hF
  refine wp_seq_k fun K101 hK101 => ?_
  refine wp_reg ?_
  refine x_assign hA (fun ac hA => ?_) rfl rfl rfl rfl rfl
  refine wpList_nil ?_
  refine hK101 _ _ ?_
  refine wp_seq_k fun K102 hK102 => ?_
  refine wp_seq_k fun K103 hK103 => ?_
  refine wp_reg ?_
  refine x_move hA (fun ac hA => ?_) rfl rfl rfl rfl rfl
  refine x_len Try.underlying37 (hS.rdl 0 ha0 rfl).2.1 hA (fun ac hA => ?_) rfl rfl rfl rfl rfl
  refine x_move hA (fun ac hA => ?_) rfl rfl rfl rfl rfl
  refine x_len Try.underlying37 (hS.rdl 0 ha1 rfl).2.1 hA (fun ac hA => ?_) rfl rfl rfl rfl rfl
  refine x_val hA (r_neI rfl (hA.ev rfl) (hA.ev rfl)) (fun ac hA => ?_) rfl rfl rfl
  refine wpList_nil ?_
  refine hK103 _ _ ?_
  refine c_if hA rfl (fun hb104 => ?_) fun hb104 => ?_
  · replace hF := ift hb104 hF
    refine wp_seq_k fun K105 hK105 => ?_
    refine wp_reg ?_
    refine x_assign hA (fun ac hA => ?_) rfl rfl rfl rfl rfl
    refine wpList_nil ?_
    refine hK105 _ _ ?_
    refine wp_ret ?_
    cases hF
    refine hQ _ _ ?_
    refine lv Try.results27 hA rfl ?_
    exact ⟨rfl, hS⟩
  replace hF := iff' hb104 hF
  refine wp_skip ?_
  refine hK102 _ _ ?_
  refine wp_seq_k fun K106 hK106 => ?_
  refine wp_seq_k fun K214 hK214 => ?_
  refine wp_reg ?_
  refine x_assign hA (fun ac hA => ?_) rfl rfl rfl rfl rfl
  refine wpList_nil ?_
  refine hK214 _ _ ?_
  refine wp_block_k fun Kx215 hKx215 => ?_
  have hb1 : law03_ints_b1 = some y → ∀ (ac : Act) (w : World), FR 26 [] ac [] → SH r (L) w → Kx215 ac w := by
    intro hF ac w hA hS
    unfold law03_ints_b1 at hF
    refine hKx215 _ _ ?_
    refine hK106 _ _ ?_
    refine wp_seq_k fun K268 hK268 => ?_
    refine wp_reg ?_
    refine x_assign hA (fun ac hA => ?_) rfl rfl rfl rfl rfl
    refine wpList_nil ?_
    refine hK268 _ _ ?_
    refine wp_ret ?_
    cases hF
    refine hQ _ _ ?_
    refine lv Try.results27 hA rfl ?_
    exact ⟨rfl, hS⟩
  obtain ⟨t303, hl303, hF⟩ := bnd hF
  have hR303 := hF
  have hx303_0 : (.inl ()) = t303 → ∀ (ac : Act) (w : World), FR 26 [] ac [] → SH r (L) w → Kx215 ac w := by
    intro ht ac w hA hS
    subst ht
    replace hF : law03_ints_x1_0 = some y := hF
    unfold law03_ints_x1_0 at hF
    exact hb1 hF ac w (hA.sub _ rfl) hS
  refine wp_loop_fn hl303 (fun s ac w => FR 26 [] ac [(0, .slice A0 n0 c0), (1, .slice A1 n1 c1), (5, .int .i64 s)] ∧ SH r (L) w) ⟨hA.sub _ rfl, hS⟩ ?_
  intro N303 s303 o303 hF N303_ T303_ ac w hLab
  obtain ⟨x286, rfl⟩ : ∃ q, q = s303 := ⟨_, rfl⟩
  replace hF : law03_ints_l1 a0 a1 x286 = some o303 := hF
  unfold law03_ints_l1 at hF
  try dsimp only at hLab
  obtain ⟨hA, hS⟩ := hLab
  refine wp_seq_k fun K305 hK305 => ?_
  refine wp_seq_k fun K306 hK306 => ?_
  refine wp_reg ?_
  refine x_move hA (fun ac hA => ?_) rfl rfl rfl rfl rfl
  refine x_move hA (fun ac hA => ?_) rfl rfl rfl rfl rfl
  refine x_len Try.underlying37 (hS.rdl 0 ha0 rfl).2.1 hA (fun ac hA => ?_) rfl rfl rfl rfl rfl
  refine x_val hA (r_ltI rfl (hA.ev rfl) (hA.ev rfl)) (fun ac hA => ?_) rfl rfl rfl
  refine wpList_nil ?_
  refine hK306 _ _ ?_
  refine c_if hA rfl (fun hb307 => ?_) fun hb307 => ?_
  · replace hF := ift hb307 hF
    refine wp_skip ?_
    refine hK305 _ _ ?_
    refine wp_seq_k fun K308 hK308 => ?_
    refine wp_block_k fun Kx309 hKx309 => ?_
    refine wp_seq_k fun K310 hK310 => ?_
    refine wp_draw [0, 0, 3, 7, 0, 0, 48, 112, 255] [] rfl hA hS (by kernel_rfl) (by kernel_rfl) (by kernel_rfl) (by kernel_rfl) fun w hS => ?_
    obtain ⟨x311, h312, hF⟩ := bnd hF
    obtain ⟨cs, hV, hc313⟩ := el (hS.rdl 0 ha0 rfl) h312
    obtain rfl := hV
    obtain ⟨x314, h315, hF⟩ := bnd hF
    obtain ⟨cs, hV, hc316⟩ := el (hS.rdl 0 ha1 rfl) h315
    obtain rfl := hV
    refine ⟨[(0, .slice A0 n0 c0), (1, .int .i64 x286), (2, .pointer (some (ea A0 (x286.toNat * 1)))), (3, .int .i64 x311), (4, .slice A1 n1 c1), (5, .int .i64 x286), (6, .pointer (some (ea A1 (x286.toNat * 1)))), (7, .int .i64 x314), (8, .bool (x311 != x314))], ?_⟩
    refine dEnd [0, 1, 2, 3, 4, 5, 6, 7, 8] (by kernel_rfl) ⟨pu rfl rfl [(0, .slice A0 n0 c0)] (fun ac hA => y_move hA rfl rfl) rfl rfl, pu rfl rfl [(5, .int .i64 x286)] (fun ac hA => y_move hA rfl rfl) rfl rfl, pu rfl rfl [(17, .slice A0 n0 c0), (18, .int .i64 x286)] (fun ac hA => y_ia Try.underlying37 sz2 (hS.rdl 0 ha0 rfl) h312 hA rfl rfl rfl) rfl rfl, pu rfl rfl [(19, .pointer (some (ea A0 (x286.toNat * 1))))] (fun ac hA => y_ld Try.underlying2 (hc313 0 _ rfl) hA rfl rfl rfl) rfl rfl, pu rfl rfl [(1, .slice A1 n1 c1)] (fun ac hA => y_move hA rfl rfl) rfl rfl, pu rfl rfl [(5, .int .i64 x286)] (fun ac hA => y_move hA rfl rfl) rfl rfl, pu rfl rfl [(21, .slice A1 n1 c1), (22, .int .i64 x286)] (fun ac hA => y_ia Try.underlying37 sz2 (hS.rdl 0 ha1 rfl) h315 hA rfl rfl rfl) rfl rfl, pu rfl rfl [(23, .pointer (some (ea A1 (x286.toNat * 1))))] (fun ac hA => y_ld Try.underlying2 (hc316 0 _ rfl) hA rfl rfl rfl) rfl rfl, pu rfl rfl [(20, .int .i64 x311), (24, .int .i64 x314)] (fun ac hA => r_neI rfl (hA.ev rfl) (hA.ev rfl)) rfl rfl, trivial⟩ ⟨by kernel_rfl, by kernel_rfl⟩ [(0, .slice A0 n0 c0), (1, .slice A1 n1 c1), (5, .int .i64 x286), (25, .bool (x311 != x314))] rfl (fun ac hA => ?_)
    refine hK310 _ _ ?_
    refine c_if hA rfl (fun hb317 => ?_) fun hb317 => ?_
    · replace hF := ift hb317 hF
      refine wp_seq_k fun K318 hK318 => ?_
      refine wp_reg ?_
      refine x_assign hA (fun ac hA => ?_) rfl rfl rfl rfl rfl
      refine wpList_nil ?_
      refine hK318 _ _ ?_
      refine wp_ret ?_
      cases hF
      have ht := T303_ _ rfl
      subst ht
      replace hF := hR303
      replace hF : some false = some y := hF
      cases hF
      refine hQ _ _ ?_
      refine lv Try.results27 hA rfl ?_
      exact ⟨rfl, hS⟩
    replace hF := iff' hb317 hF
    refine wp_skip ?_
    refine hKx309 _ _ ?_
    refine hK308 _ _ ?_
    refine wp_reg ?_
    refine x_move hA (fun ac hA => ?_) rfl rfl rfl rfl rfl
    obtain ⟨x319, h320, hF⟩ := ltt_ hF
    refine x_val (v := .int .i64 x319) hA (rv_i h320 (r_add rfl (hA.ev rfl) (hA.ev rfl))) (fun ac hA => ?_) rfl rfl rfl
    refine x_assign hA (fun ac hA => ?_) rfl rfl rfl rfl rfl
    refine wpList_nil ?_
    cases hF
    exact ⟨_, N303_ _ rfl, hA.sub _ rfl, hS⟩
  replace hF := iff' hb307 hF
  refine wp_exit ?_
  cases hF
  exact hx303_0 (T303_ _ rfl) ac w (hA.sub _ rfl) hS

set_option maxHeartbeats 4000000 in
theorem F_law03_awake {r : World} {L : List HP} {w : World} {y : (Bool)} (hF : law03_awake = some y) (hS : SH r (L) w) :
    Ret Try.prog 10 #[] w fun v w' => v = .bool y ∧ SH r (L) w' := by
  refine enter Try.func10 rfl Try.ntmps10 [] rfl (by simp) ?_
  intro ac hA Qf hQ hQn
  unfold law03_awake at hF
  refine wp_seq_k fun K101 hK101 => ?_
  refine wp_reg ?_
  refine x_assign hA (fun ac hA => ?_) rfl rfl rfl rfl rfl
  refine wpList_nil ?_
  refine hK101 _ _ ?_
  refine wp_seq_k fun K102 hK102 => ?_
  refine wp_reg ?_
  refine x_bsl (d := (kI .i64)) (e := 2) (ps := #[(0, .int .i64 7), (1, .int .i64 7), (2, .int .i64 7)]) (cells := [.int .i64 7, .int .i64 7, .int .i64 7]) (xs := [7, 7, 7]) (fun w => by kernel_rfl) rfl ⟨[.int .i64 7], _, rfl, rfl, ⟨[.int .i64 7], _, rfl, rfl, ⟨[.int .i64 7], _, rfl, rfl, rfl⟩⟩⟩ hA hS (fun g103 ac w hS hA => ?_) rfl rfl rfl rfl rfl rfl
  obtain ⟨y104, h105, hF⟩ := bnd hF
  refine x_call en22 hA (F_column_Ints (L := own (kI .i64) 2 (some ⟨g103, 0, none⟩) 3 3 [7, 7, 7] :: L) [7, 7, 7] (some ⟨g103, 0, none⟩) 3 3 h105 (RdL.own 0 rfl (hS.dropN 0)) hS) (fun v ac w hR hA => ?_) rfl rfl rfl rfl rfl
  obtain ⟨B106, m107, d108, rfl, hS⟩ := hR
  refine x_b2s Try.underlying22 Try.underlying5 Try.underlying9 (hS.rd 0 rfl) hA (fun ac hA => ?_) rfl rfl rfl rfl rfl
  refine x_val hA (r_eqS rfl (hA.ev rfl) (hA.ev rfl)) (fun ac hA => ?_) rfl rfl rfl
  refine x_move hA (fun ac hA => ?_) rfl rfl rfl rfl rfl
  refine bcase (b := (bts y104) == [2, 3, 14, 2]) (fun hb109 => ?_) fun hb109 => ?_
  · replace hF := ift hb109 hF
    refine x_pickt hb109 hA (fun ac hA => ?_) rfl rfl rfl rfl rfl rfl
    refine x_move hA (fun ac hA => ?_) rfl rfl rfl rfl rfl
    refine x_pickt rfl hA (fun ac hA => ?_) rfl rfl rfl rfl rfl rfl
    refine x_assign hA (fun ac hA => ?_) rfl rfl rfl rfl rfl
    refine wpList_nil ?_
    refine hK102 _ _ ?_
    refine wp_ret ?_
    replace hS := hS.drop 0
    replace hS := hS.drop 0
    cases hF
    refine hQ _ _ ?_
    refine lv Try.results10 hA rfl ?_
    exact ⟨rfl, hS⟩
  replace hF := iff' hb109 hF
  refine x_pickf hb109 hA (fun ac hA => ?_) rfl rfl rfl rfl rfl rfl
  refine x_move hA (fun ac hA => ?_) rfl rfl rfl rfl rfl
  refine x_pickf rfl hA (fun ac hA => ?_) rfl rfl rfl rfl rfl rfl
  refine x_assign hA (fun ac hA => ?_) rfl rfl rfl rfl rfl
  refine wpList_nil ?_
  refine hK102 _ _ ?_
  refine wp_ret ?_
  replace hS := hS.drop 0
  replace hS := hS.drop 0
  cases hF
  refine hQ _ _ ?_
  refine lv Try.results10 hA rfl ?_
  exact ⟨rfl, hS⟩

set_option maxHeartbeats 4000000 in
theorem F_law03_ColumnInts {r : World} {L : List HP} {w : World} {Z : Nat → Prop} {wz : World} (a0 : (List Int)) (A0 : Option Addr) (n0 : Nat) (c0 : Nat) {y : (Bool)} (hF : law03_ColumnInts a0 = some y) (ha0 : Imm Z wz (kI .i64) A0 n0 c0 a0) (hS : SH r (zone Z wz :: L) w) :
    Ret Try.prog 4 #[.slice A0 n0 c0] w fun v w' => ∃ (Z' : Nat → Prop) (wz' : World), v = .bool y ∧ Sub Z wz Z' wz' ∧ SH r (zone Z' wz' :: L) w' := by
  refine enter Try.func4 rfl Try.ntmps4 [(0, .slice A0 n0 c0)] rfl (by simp) ?_
  intro ac hA Qf hQ hQn
  unfold law03_ColumnInts at hF
  refine wp_seq_k fun K101 hK101 => ?_
  refine wp_reg ?_
  refine x_assign hA (fun ac hA => ?_) rfl rfl rfl rfl rfl
  refine wpList_nil ?_
  refine hK101 _ _ ?_
  refine wp_seq_k fun K102 hK102 => ?_
  refine wp_seq_k fun K103 hK103 => ?_
  have hj1 : ∀ (b107 : Bool), law03_ColumnInts_j1 a0 b107 = some y → ∀ (ac : Act) (w : World), FR 74 [] ac [(0, .slice A0 n0 c0), (16, .bool b107)] → SH r (zone Z wz :: L) w → K103 ac w := by
    intro b107 hF ac w hA hS
    unfold law03_ColumnInts_j1 at hF
    refine hK103 _ _ ?_
    refine c_if hA rfl (fun hb108 => ?_) fun hb108 => ?_
    · replace hF := ift hb108 hF
      refine wp_seq_k fun K109 hK109 => ?_
      refine wp_reg ?_
      obtain ⟨y110, h111, hF⟩ := bnd hF
      refine x_call en10 hA (F_law03_awake (L := zone Z wz :: L) h111 hS) (fun v ac w hR hA => ?_) rfl rfl rfl rfl rfl
      obtain ⟨rfl, hS⟩ := hR
      refine x_assign hA (fun ac hA => ?_) rfl rfl rfl rfl rfl
      refine wpList_nil ?_
      refine hK109 _ _ ?_
      refine wp_ret ?_
      cases hF
      refine hQ _ _ ?_
      refine lv Try.results4 hA rfl ?_
      exact ⟨Z, wz, rfl, (Sub.refl _ _), hS⟩
    replace hF := iff' hb108 hF
    refine wp_skip ?_
    refine hK102 _ _ ?_
    refine wp_seq_k fun K112 hK112 => ?_
    refine wp_reg ?_
    refine x_move hA (fun ac hA => ?_) rfl rfl rfl rfl rfl
    obtain ⟨y113, h114, hF⟩ := bnd hF
    refine x_call en22 hA (F_column_Ints (L := zone Z wz :: L) a0 A0 n0 c0 h114 (ha0.rdl 0 rfl) hS) (fun v ac w hR hA => ?_) rfl rfl rfl rfl rfl
    obtain ⟨B115, m116, d117, rfl, hS⟩ := hR
    refine x_assign hA (fun ac hA => ?_) rfl rfl rfl rfl rfl
    refine wpList_nil ?_
    refine hK112 _ _ ?_
    refine wp_seq_k fun K118 hK118 => ?_
    refine wp_seq_k fun K119 hK119 => ?_
    refine wp_draw [0, 1, 0, 4, 12, 31] [3] rfl hA hS (by kernel_rfl) (by kernel_rfl) (by kernel_rfl) (by kernel_rfl) fun w hS => ?_
    refine ⟨[(0, .slice B115 m116 d117), (1, str (bts y113)), (2, .slice A0 n0 c0)], ?_⟩
    refine dEff [0, 1, 2] [3] (by kernel_rfl) ⟨pu rfl rfl [(3, .slice B115 m116 d117)] (fun ac hA => y_move hA rfl rfl) rfl rfl, pu rfl rfl [(20, .slice B115 m116 d117)] (fun ac hA => y_b2s Try.underlying22 Try.underlying5 Try.underlying9 (hS.rd 0 rfl) hA rfl rfl) rfl rfl, pu rfl rfl [(0, .slice A0 n0 c0)] (fun ac hA => y_move hA rfl rfl) rfl rfl, trivial⟩ (by kernel_rfl) (by kernel_rfl) ⟨ef rfl [(22, .slice A0 n0 c0)] (fun ac hA K hK => ?_) rfl rfl, trivial⟩
    obtain ⟨y120, h121, hF⟩ := bnd hF
    refine z_call en23 hA (F_r03_Ints (L := own (kI .u8) 5 B115 m116 d117 y113 :: zone Z wz :: L) a0 A0 n0 c0 h121 (ha0.rdl 1 rfl) hS) (fun v w hR => ?_) rfl rfl
    obtain ⟨B122, m123, d124, rfl, hS⟩ := hR
    refine hK _ [(4, str (bts y120)), (5, .bool (!((bts y113) == (bts y120))))] _ rfl ?_
    refine dEnd [0, 1, 4, 5] (by kernel_rfl) ⟨pu rfl rfl [(3, .slice B115 m116 d117)] (fun ac hA => y_move hA rfl rfl) rfl rfl, pu rfl rfl [(20, .slice B115 m116 d117)] (fun ac hA => y_b2s Try.underlying22 Try.underlying5 Try.underlying9 (hS.rd 1 rfl) hA rfl rfl) rfl rfl, pu rfl rfl [(23, .slice B122 m123 d124)] (fun ac hA => y_b2s Try.underlying22 Try.underlying5 Try.underlying9 (hS.rd 0 rfl) hA rfl rfl) rfl rfl, pu rfl rfl [(21, str (bts y113)), (24, str (bts y120))] (fun ac hA => r_neS rfl (hA.ev rfl) (hA.ev rfl)) rfl rfl, trivial⟩ ⟨by kernel_rfl, by kernel_rfl⟩ [(0, .slice A0 n0 c0), (3, .slice B115 m116 d117), (25, .bool (!((bts y113) == (bts y120))))] rfl (fun ac hA => ?_)
    refine hK119 _ _ ?_
    refine c_if hA rfl (fun hb125 => ?_) fun hb125 => ?_
    · replace hF := ift hb125 hF
      refine wp_seq_k fun K126 hK126 => ?_
      refine wp_reg ?_
      refine x_assign hA (fun ac hA => ?_) rfl rfl rfl rfl rfl
      refine wpList_nil ?_
      refine hK126 _ _ ?_
      refine wp_ret ?_
      replace hS := hS.drop 0
      replace hS := hS.drop 0
      cases hF
      refine hQ _ _ ?_
      refine lv Try.results4 hA rfl ?_
      exact ⟨Z, wz, rfl, (Sub.refl _ _), hS⟩
    replace hF := iff' hb125 hF
    refine wp_skip ?_
    refine hK118 _ _ ?_
    refine wp_seq_k fun K127 hK127 => ?_
    refine wp_seq_k fun K469 hK469 => ?_
    refine wp_reg ?_
    refine x_assign hA (fun ac hA => ?_) rfl rfl rfl rfl rfl
    refine wpList_nil ?_
    refine hK469 _ _ ?_
    refine wp_block_k fun Kx470 hKx470 => ?_
    have hb1 : law03_ColumnInts_b1 a0 y113 = some y → ∀ (Z638 : Nat → Prop) (wz639 : World) (h640 : Sub Z wz Z638 wz639) (h641 : Imm Z638 wz639 (kI .i64) A0 n0 c0 a0) (ac : Act) (w : World), FR 74 [] ac [(0, .slice A0 n0 c0), (3, .slice B115 m116 d117)] → SH r (own (kI .u8) 5 B115 m116 d117 y113 :: zone Z638 wz639 :: L) w → Kx470 ac w := by
      intro hF Z638 wz639 h640 h641 ac w hA hS
      unfold law03_ColumnInts_b1 at hF
      refine hKx470 _ _ ?_
      refine hK127 _ _ ?_
      refine wp_seq_k fun K642 hK642 => ?_
      refine wp_reg ?_
      refine x_move hA (fun ac hA => ?_) rfl rfl rfl rfl rfl
      replace hS := hS.pk 1
      replace hS := hS.pk 1
      obtain ⟨Z643, wz644, hS, h645, sb646⟩ := SH.freeze (n := m116) (c := d117) (A := B115) hS
      have h647 := Imm.sub h641 sb646
      obtain ⟨y648, h649, hF⟩ := bnd hF
      refine x_call en25 hA (F_column_ReadInts (L := zone Z643 wz644 :: L) y113 B115 m116 d117 h649 0 rfl h645 hS) (fun v ac w hR hA => ?_) rfl rfl rfl rfl rfl
      obtain ⟨B650, m651, d652, rfl, hS⟩ := hR
      refine x_move hA (fun ac hA => ?_) rfl rfl rfl rfl rfl
      refine x_val hA (r_extract rfl (hA.ev rfl) rfl) (fun ac hA => ?_) rfl rfl rfl
      refine x_val hA (r_extract rfl (hA.ev rfl) rfl) (fun ac hA => ?_) rfl rfl rfl
      refine x_assign hA (fun ac hA => ?_) rfl rfl rfl rfl rfl
      refine x_assign hA (fun ac hA => ?_) rfl rfl rfl rfl rfl
      refine wpList_nil ?_
      refine hK642 _ _ ?_
      refine wp_seq_k fun K653 hK653 => ?_
      refine wp_reg ?_
      refine x_move hA (fun ac hA => ?_) rfl rfl rfl rfl rfl
      refine x_val hA (r_eqI rfl (hA.ev rfl) (hA.ev rfl)) (fun ac hA => ?_) rfl rfl rfl
      refine x_move hA (fun ac hA => ?_) rfl rfl rfl rfl rfl
      refine bcase (b := y648.2 == 0) (fun hb654 => ?_) fun hb654 => ?_
      · replace hF := ift hb654 hF
        refine x_on hb654 hA ?_ rfl rfl rfl
        refine x_move hA (fun ac hA => ?_) rfl rfl rfl rfl rfl
        refine x_on hb654 hA ?_ rfl rfl rfl
        refine x_move hA (fun ac hA => ?_) rfl rfl rfl rfl rfl
        refine x_on hb654 hA ?_ rfl rfl rfl
        obtain ⟨y655, h656, hF⟩ := bnd hF
        refine x_call en27 hA (F_law03_ints (L := own (kI .i64) 2 B650 m651 d652 y648.1 :: zone Z643 wz644 :: L) y648.1 a0 B650 m651 d652 A0 n0 c0 h656 (RdL.own 0 rfl (hS.dropN 0)) (h647.rdl 1 rfl) hS) (fun v ac w hR hA => ?_) rfl rfl rfl rfl rfl
        obtain ⟨rfl, hS⟩ := hR
        refine x_pickt hb654 hA (fun ac hA => ?_) rfl rfl rfl rfl rfl rfl
        refine x_assign hA (fun ac hA => ?_) rfl rfl rfl rfl rfl
        refine wpList_nil ?_
        refine hK653 _ _ ?_
        refine wp_ret ?_
        replace hS := hS.drop 0
        cases hF
        refine hQ _ _ ?_
        refine lv Try.results4 hA rfl ?_
        exact ⟨Z643, wz644, rfl, (Sub.trans h640 sb646), hS⟩
      replace hF := iff' hb654 hF
      refine x_off hb654 hA (fun ac hA => ?_) rfl rfl rfl rfl rfl
      refine x_off hb654 hA (fun ac hA => ?_) rfl rfl rfl rfl rfl
      refine x_off hb654 hA (fun ac hA => ?_) rfl rfl rfl rfl rfl
      refine x_pickf hb654 hA (fun ac hA => ?_) rfl rfl rfl rfl rfl rfl
      refine x_assign hA (fun ac hA => ?_) rfl rfl rfl rfl rfl
      refine wpList_nil ?_
      refine hK653 _ _ ?_
      refine wp_ret ?_
      replace hS := hS.drop 0
      cases hF
      refine hQ _ _ ?_
      refine lv Try.results4 hA rfl ?_
      exact ⟨Z643, wz644, rfl, (Sub.trans h640 sb646), hS⟩
    obtain ⟨t773, hl773, hF⟩ := bnd hF
    have hR773 := hF
    have hx773_0 : (.inl ()) = t773 → ∀ (Z770 : Nat → Prop) (wz771 : World) (h772 : Sub Z wz Z770 wz771) (h773 : Imm Z770 wz771 (kI .i64) A0 n0 c0 a0) (ac : Act) (w : World), FR 74 [] ac [(0, .slice A0 n0 c0), (3, .slice B115 m116 d117)] → SH r (own (kI .u8) 5 B115 m116 d117 y113 :: zone Z770 wz771 :: L) w → Kx470 ac w := by
      intro ht Z770 wz771 h772 h773 ac w hA hS
      subst ht
      replace hF : law03_ColumnInts_x1_0 a0 y113 = some y := hF
      unfold law03_ColumnInts_x1_0 at hF
      exact hb1 hF Z770 wz771 h772 h773 ac w (hA.sub _ rfl) hS
    replace hS := hS.drop 0
    refine wp_loop_fn hl773 (fun s ac w => ∃ (Z711 : Nat → Prop) (wz712 : World), Sub Z wz Z711 wz712 ∧ Imm Z711 wz712 (kI .i64) A0 n0 c0 a0 ∧ FR 74 [] ac [(0, .slice A0 n0 c0), (3, .slice B115 m116 d117), (4, .int .u8 s)] ∧ SH r (own (kI .u8) 5 B115 m116 d117 y113 :: zone Z711 wz712 :: L) w) ⟨Z, wz, (Sub.refl _ _), ha0, hA.sub _ rfl, hS⟩ ?_
    intro N773 s773 o773 hF N773_ T773_ ac w hLab
    obtain ⟨x715, rfl⟩ : ∃ q, q = s773 := ⟨_, rfl⟩
    replace hF : law03_ColumnInts_l1 a0 y113 x715 = some o773 := hF
    unfold law03_ColumnInts_l1 at hF
    try dsimp only at hLab
    obtain ⟨Z711, wz712, h713, h714, hA, hS⟩ := hLab
    refine wp_seq_k fun K775 hK775 => ?_
    refine wp_seq_k fun K776 hK776 => ?_
    refine wp_reg ?_
    refine x_move hA (fun ac hA => ?_) rfl rfl rfl rfl rfl
    refine x_val hA (r_ltI rfl (hA.ev rfl) (hA.ev rfl)) (fun ac hA => ?_) rfl rfl rfl
    refine wpList_nil ?_
    refine hK776 _ _ ?_
    refine c_if hA rfl (fun hb777 => ?_) fun hb777 => ?_
    · replace hF := ift hb777 hF
      refine wp_skip ?_
      refine hK775 _ _ ?_
      refine wp_seq_k fun K778 hK778 => ?_
      refine wp_block_k fun Kx779 hKx779 => ?_
      refine wp_seq_k fun K780 hK780 => ?_
      refine wp_reg ?_
      refine x_move hA (fun ac hA => ?_) rfl rfl rfl rfl rfl
      refine x_move hA (fun ac hA => ?_) rfl rfl rfl rfl rfl
      obtain ⟨y781, h782, hF⟩ := bnd hF
      refine x_call en24 hA (F_column_As (L := own (kI .u8) 5 B115 m116 d117 y113 :: zone Z711 wz712 :: L) x715 a0 A0 n0 c0 h782 (h714.rdl 1 rfl) hS) (fun v ac w hR hA => ?_) rfl rfl rfl rfl rfl
      obtain ⟨B783, m784, d785, rfl, hS⟩ := hR
      refine x_assign hA (fun ac hA => ?_) rfl rfl rfl rfl rfl
      refine wpList_nil ?_
      refine hK780 _ _ ?_
      refine wp_seq_k fun K786 hK786 => ?_
      refine wp_reg ?_
      refine x_move hA (fun ac hA => ?_) rfl rfl rfl rfl rfl
      replace hS := hS.pk 2
      replace hS := hS.pk 1
      obtain ⟨Z787, wz788, hS, h789, sb790⟩ := SH.freeze (n := m784) (c := d785) (A := B783) hS
      have h791 := Imm.sub h714 sb790
      obtain ⟨y792, h793, hF⟩ := bnd hF
      refine x_call en25 hA (F_column_ReadInts (L := zone Z787 wz788 :: own (kI .u8) 5 B115 m116 d117 y113 :: L) y781 B783 m784 d785 h793 0 rfl h789 hS) (fun v ac w hR hA => ?_) rfl rfl rfl rfl rfl
      obtain ⟨B794, m795, d796, rfl, hS⟩ := hR
      refine x_move hA (fun ac hA => ?_) rfl rfl rfl rfl rfl
      refine x_val hA (r_extract rfl (hA.ev rfl) rfl) (fun ac hA => ?_) rfl rfl rfl
      refine x_val hA (r_extract rfl (hA.ev rfl) rfl) (fun ac hA => ?_) rfl rfl rfl
      refine x_assign hA (fun ac hA => ?_) rfl rfl rfl rfl rfl
      refine x_assign hA (fun ac hA => ?_) rfl rfl rfl rfl rfl
      refine wpList_nil ?_
      refine hK786 _ _ ?_
      refine wp_seq_k fun K797 hK797 => ?_
      have hj2 : ∀ (b808 : Bool), law03_ColumnInts_j2 x715 b808 = some o773 → ∀ (ac : Act) (w : World), FR 74 [] ac [(0, .slice A0 n0 c0), (3, .slice B115 m116 d117), (4, .int .u8 x715), (61, .bool b808)] → SH r (own (kI .u8) 5 B115 m116 d117 y113 :: zone Z787 wz788 :: L) w → K797 ac w := by
        intro b808 hF ac w hA hS
        unfold law03_ColumnInts_j2 at hF
        refine hK797 _ _ ?_
        refine c_if hA rfl (fun hb809 => ?_) fun hb809 => ?_
        · replace hF := ift hb809 hF
          refine wp_seq_k fun K810 hK810 => ?_
          refine wp_reg ?_
          refine x_assign hA (fun ac hA => ?_) rfl rfl rfl rfl rfl
          refine wpList_nil ?_
          refine hK810 _ _ ?_
          refine wp_ret ?_
          replace hS := hS.drop 0
          cases hF
          have ht := T773_ _ rfl
          subst ht
          replace hF := hR773
          replace hF : some false = some y := hF
          cases hF
          refine hQ _ _ ?_
          refine lv Try.results4 hA rfl ?_
          exact ⟨Z787, wz788, rfl, (Sub.trans h713 sb790), hS⟩
        replace hF := iff' hb809 hF
        refine wp_skip ?_
        refine hKx779 _ _ ?_
        refine hK778 _ _ ?_
        refine wp_reg ?_
        refine x_move hA (fun ac hA => ?_) rfl rfl rfl rfl rfl
        obtain ⟨x811, h812, hF⟩ := ltt_ hF
        refine x_val (v := .int .u8 x811) hA (rv_i h812 (r_add rfl (hA.ev rfl) (hA.ev rfl))) (fun ac hA => ?_) rfl rfl rfl
        refine x_assign hA (fun ac hA => ?_) rfl rfl rfl rfl rfl
        refine wpList_nil ?_
        cases hF
        exact ⟨_, N773_ _ rfl, Z787, wz788, (Sub.trans h713 sb790), h791, hA.sub _ rfl, hS⟩
      refine wp_draw [0, 1, 0, 0, 12, 28, 63, 127, 255, 511, 1023, 2047, 4095, 4095, 16383, 32767, 65535, 131071, 262143, 524287, 262143, 1310719, 4194303, 8388607] [4, 14] rfl hA hS (by kernel_rfl) (by kernel_rfl) (by kernel_rfl) (by kernel_rfl) fun w hS => ?_
      refine ⟨[(0, .slice B783 m784 d785), (1, str (bts y781)), (2, .int .u8 x715), (3, .slice A0 n0 c0)], ?_⟩
      refine dEff [0, 1, 2, 3] [4] (by kernel_rfl) ⟨pu rfl rfl [(5, .slice B783 m784 d785)] (fun ac hA => y_move hA rfl rfl) rfl rfl, pu rfl rfl [(38, .slice B783 m784 d785)] (fun ac hA => y_b2s Try.underlying22 Try.underlying5 Try.underlying9 (hS.imm 1 h789 rfl) hA rfl rfl) rfl rfl, pu rfl rfl [(4, .int .u8 x715)] (fun ac hA => y_move hA rfl rfl) rfl rfl, pu rfl rfl [(0, .slice A0 n0 c0)] (fun ac hA => y_move hA rfl rfl) rfl rfl, trivial⟩ (by kernel_rfl) (by kernel_rfl) ⟨ef rfl [(40, .int .u8 x715), (41, .slice A0 n0 c0)] (fun ac hA K hK => ?_) rfl rfl, trivial⟩
      obtain ⟨y813, h814, hF⟩ := bnd hF
      refine z_call en26 hA (F_r03_As (L := own (kI .i64) 2 B794 m795 d796 y792.1 :: zone Z787 wz788 :: own (kI .u8) 5 B115 m116 d117 y113 :: L) x715 a0 A0 n0 c0 h814 (h791.rdl 1 rfl) hS) (fun v w hR => ?_) rfl rfl
      obtain ⟨B815, m816, d817, rfl, hS⟩ := hR
      refine bcase (b := !((bts y781) == (bts y813))) (fun hb818 => ?_) fun hb818 => ?_
      · replace hF := ift hb818 hF
        refine hK _ [(5, str (bts y813)), (6, .bool (!((bts y781) == (bts y813)))), (7, .bool (!((bts y781) == (bts y813)))), (8, undef), (9, undef), (10, .bool true), (11, .bool true), (12, undef), (13, undef)] _ rfl ?_
        refine dEff [0, 1, 5, 6, 7, 8, 9, 10, 11, 12, 13] [14] (by kernel_rfl) ⟨pu rfl rfl [(5, .slice B783 m784 d785)] (fun ac hA => y_move hA rfl rfl) rfl rfl, pu rfl rfl [(38, .slice B783 m784 d785)] (fun ac hA => y_b2s Try.underlying22 Try.underlying5 Try.underlying9 (hS.imm 2 h789 rfl) hA rfl rfl) rfl rfl, pu rfl rfl [(42, .slice B815 m816 d817)] (fun ac hA => y_b2s Try.underlying22 Try.underlying5 Try.underlying9 (hS.rd 0 rfl) hA rfl rfl) rfl rfl, pu rfl rfl [(39, str (bts y781)), (43, str (bts y813))] (fun ac hA => r_neS rfl (hA.ev rfl) (hA.ev rfl)) rfl rfl, pu rfl rfl [(44, .bool (!((bts y781) == (bts y813))))] (fun ac hA => y_move hA rfl rfl) rfl rfl, puOff rfl rfl rfl rfl [(7, .int .i64 y792.2), (45, .bool (!((bts y781) == (bts y813))))] rfl hb818 rfl, puOff rfl rfl rfl rfl [(45, .bool (!((bts y781) == (bts y813)))), (46, undef)] rfl hb818 rfl, pu rfl rfl [(45, .bool (!((bts y781) == (bts y813)))), (47, undef)] (fun ac hA => y_pickt hb818 hA rfl rfl rfl) rfl rfl, pu rfl rfl [(48, .bool true)] (fun ac hA => y_move hA rfl rfl) rfl rfl, puOff rfl rfl rfl rfl [(6, .slice B794 m795 d796), (49, .bool true)] rfl rfl rfl, puOff rfl rfl rfl rfl [(0, .slice A0 n0 c0), (49, .bool true)] rfl rfl rfl, trivial⟩ (by kernel_rfl) (by kernel_rfl) ⟨?_, trivial⟩
        refine efOff rfl rfl rfl [(49, .bool true), (50, undef), (51, undef)] rfl [(15, undef), (16, .bool true), (17, .bool true), (18, undef), (19, undef), (20, undef), (21, undef), (22, undef), (23, .bool true)] rfl rfl ?_ rfl
        refine dEnd [15, 16, 17, 18, 19, 20, 21, 22, 23] (by kernel_rfl) ⟨puOff rfl rfl rfl rfl [(49, .bool true), (52, undef)] rfl rfl rfl, pu rfl rfl [(49, .bool true), (53, undef)] (fun ac hA => y_pickt rfl hA rfl rfl rfl) rfl rfl, pu rfl rfl [(54, .bool true)] (fun ac hA => y_move hA rfl rfl) rfl rfl, puOff rfl rfl rfl rfl [(5, .slice B783 m784 d785), (55, .bool true)] rfl rfl rfl, puOff rfl rfl rfl rfl [(55, .bool true), (56, undef)] rfl rfl rfl, puOff rfl rfl rfl rfl [(3, .slice B115 m116 d117), (55, .bool true)] rfl rfl rfl, puOff rfl rfl rfl rfl [(55, .bool true), (58, undef)] rfl rfl rfl, puOff rfl rfl rfl rfl [(55, .bool true), (57, undef), (59, undef)] rfl rfl rfl, pu rfl rfl [(55, .bool true), (60, undef)] (fun ac hA => y_pickt rfl hA rfl rfl rfl) rfl rfl, trivial⟩ ⟨by kernel_rfl, by kernel_rfl⟩ [(0, .slice A0 n0 c0), (3, .slice B115 m116 d117), (4, .int .u8 x715), (61, .bool true)] rfl (fun ac hA => ?_)
        replace hS := hS.drop 0
        replace hS := hS.drop 0
        replace hS := hS.pk 1
        exact hj2 true hF ac w (hA.sub _ rfl) hS
      replace hF := iff' hb818 hF
      refine bcase (b := y792.2 != 0) (fun hb819 => ?_) fun hb819 => ?_
      · replace hF := ift hb819 hF
        refine hK _ [(5, str (bts y813)), (6, .bool (!((bts y781) == (bts y813)))), (7, .bool (!((bts y781) == (bts y813)))), (8, .int .i64 y792.2), (9, .bool (y792.2 != 0)), (10, .bool (y792.2 != 0)), (11, .bool (y792.2 != 0)), (12, undef), (13, undef)] _ rfl ?_
        refine dEff [0, 1, 5, 6, 7, 8, 9, 10, 11, 12, 13] [14] (by kernel_rfl) ⟨pu rfl rfl [(5, .slice B783 m784 d785)] (fun ac hA => y_move hA rfl rfl) rfl rfl, pu rfl rfl [(38, .slice B783 m784 d785)] (fun ac hA => y_b2s Try.underlying22 Try.underlying5 Try.underlying9 (hS.imm 2 h789 rfl) hA rfl rfl) rfl rfl, pu rfl rfl [(42, .slice B815 m816 d817)] (fun ac hA => y_b2s Try.underlying22 Try.underlying5 Try.underlying9 (hS.rd 0 rfl) hA rfl rfl) rfl rfl, pu rfl rfl [(39, str (bts y781)), (43, str (bts y813))] (fun ac hA => r_neS rfl (hA.ev rfl) (hA.ev rfl)) rfl rfl, pu rfl rfl [(44, .bool (!((bts y781) == (bts y813))))] (fun ac hA => y_move hA rfl rfl) rfl rfl, puOn rfl rfl rfl rfl [(7, .int .i64 y792.2), (45, .bool (!((bts y781) == (bts y813))))] rfl hb818 (fun ac hA => y_move hA rfl rfl) rfl, puOn rfl rfl rfl rfl [(45, .bool (!((bts y781) == (bts y813)))), (46, .int .i64 y792.2)] rfl hb818 (fun ac hA => r_neI rfl (hA.ev rfl) (hA.ev rfl)) rfl, pu rfl rfl [(45, .bool (!((bts y781) == (bts y813)))), (47, .bool (y792.2 != 0))] (fun ac hA => y_pickf hb818 hA rfl rfl rfl) rfl rfl, pu rfl rfl [(48, .bool (y792.2 != 0))] (fun ac hA => y_move hA rfl rfl) rfl rfl, puOff rfl rfl rfl rfl [(6, .slice B794 m795 d796), (49, .bool (y792.2 != 0))] rfl hb819 rfl, puOff rfl rfl rfl rfl [(0, .slice A0 n0 c0), (49, .bool (y792.2 != 0))] rfl hb819 rfl, trivial⟩ (by kernel_rfl) (by kernel_rfl) ⟨?_, trivial⟩
        refine efOff rfl rfl rfl [(49, .bool (y792.2 != 0)), (50, undef), (51, undef)] rfl [(15, undef), (16, .bool true), (17, .bool true), (18, undef), (19, undef), (20, undef), (21, undef), (22, undef), (23, .bool true)] hb819 rfl ?_ rfl
        refine dEnd [15, 16, 17, 18, 19, 20, 21, 22, 23] (by kernel_rfl) ⟨puOff rfl rfl rfl rfl [(49, .bool (y792.2 != 0)), (52, undef)] rfl hb819 rfl, pu rfl rfl [(49, .bool (y792.2 != 0)), (53, undef)] (fun ac hA => y_pickt hb819 hA rfl rfl rfl) rfl rfl, pu rfl rfl [(54, .bool true)] (fun ac hA => y_move hA rfl rfl) rfl rfl, puOff rfl rfl rfl rfl [(5, .slice B783 m784 d785), (55, .bool true)] rfl rfl rfl, puOff rfl rfl rfl rfl [(55, .bool true), (56, undef)] rfl rfl rfl, puOff rfl rfl rfl rfl [(3, .slice B115 m116 d117), (55, .bool true)] rfl rfl rfl, puOff rfl rfl rfl rfl [(55, .bool true), (58, undef)] rfl rfl rfl, puOff rfl rfl rfl rfl [(55, .bool true), (57, undef), (59, undef)] rfl rfl rfl, pu rfl rfl [(55, .bool true), (60, undef)] (fun ac hA => y_pickt rfl hA rfl rfl rfl) rfl rfl, trivial⟩ ⟨by kernel_rfl, by kernel_rfl⟩ [(0, .slice A0 n0 c0), (3, .slice B115 m116 d117), (4, .int .u8 x715), (46, .int .i64 y792.2), (47, .bool (y792.2 != 0)), (61, .bool true)] rfl (fun ac hA => ?_)
        replace hS := hS.drop 0
        replace hS := hS.drop 0
        replace hS := hS.pk 1
        exact hj2 true hF ac w (hA.sub _ rfl) hS
      replace hF := iff' hb819 hF
      refine hK _ [(5, str (bts y813)), (6, .bool (!((bts y781) == (bts y813)))), (7, .bool (!((bts y781) == (bts y813)))), (8, .int .i64 y792.2), (9, .bool (y792.2 != 0)), (10, .bool (y792.2 != 0)), (11, .bool (y792.2 != 0)), (12, .slice B794 m795 d796), (13, .slice A0 n0 c0)] _ rfl ?_
      refine dEff [0, 1, 5, 6, 7, 8, 9, 10, 11, 12, 13] [14] (by kernel_rfl) ⟨pu rfl rfl [(5, .slice B783 m784 d785)] (fun ac hA => y_move hA rfl rfl) rfl rfl, pu rfl rfl [(38, .slice B783 m784 d785)] (fun ac hA => y_b2s Try.underlying22 Try.underlying5 Try.underlying9 (hS.imm 2 h789 rfl) hA rfl rfl) rfl rfl, pu rfl rfl [(42, .slice B815 m816 d817)] (fun ac hA => y_b2s Try.underlying22 Try.underlying5 Try.underlying9 (hS.rd 0 rfl) hA rfl rfl) rfl rfl, pu rfl rfl [(39, str (bts y781)), (43, str (bts y813))] (fun ac hA => r_neS rfl (hA.ev rfl) (hA.ev rfl)) rfl rfl, pu rfl rfl [(44, .bool (!((bts y781) == (bts y813))))] (fun ac hA => y_move hA rfl rfl) rfl rfl, puOn rfl rfl rfl rfl [(7, .int .i64 y792.2), (45, .bool (!((bts y781) == (bts y813))))] rfl hb818 (fun ac hA => y_move hA rfl rfl) rfl, puOn rfl rfl rfl rfl [(45, .bool (!((bts y781) == (bts y813)))), (46, .int .i64 y792.2)] rfl hb818 (fun ac hA => r_neI rfl (hA.ev rfl) (hA.ev rfl)) rfl, pu rfl rfl [(45, .bool (!((bts y781) == (bts y813)))), (47, .bool (y792.2 != 0))] (fun ac hA => y_pickf hb818 hA rfl rfl rfl) rfl rfl, pu rfl rfl [(48, .bool (y792.2 != 0))] (fun ac hA => y_move hA rfl rfl) rfl rfl, puOn rfl rfl rfl rfl [(6, .slice B794 m795 d796), (49, .bool (y792.2 != 0))] rfl hb819 (fun ac hA => y_move hA rfl rfl) rfl, puOn rfl rfl rfl rfl [(0, .slice A0 n0 c0), (49, .bool (y792.2 != 0))] rfl hb819 (fun ac hA => y_move hA rfl rfl) rfl, trivial⟩ (by kernel_rfl) (by kernel_rfl) ⟨efOn rfl rfl rfl [(49, .bool (y792.2 != 0)), (50, .slice B794 m795 d796), (51, .slice A0 n0 c0)] rfl hb819 (fun ac hA K hK => ?_) rfl, trivial⟩
      obtain ⟨y820, h821, hF⟩ := bnd hF
      refine z_call en27 hA (F_law03_ints (L := own (kI .u8) 5 B815 m816 d817 y813 :: own (kI .i64) 2 B794 m795 d796 y792.1 :: zone Z787 wz788 :: own (kI .u8) 5 B115 m116 d117 y113 :: L) y792.1 a0 B794 m795 d796 A0 n0 c0 h821 (RdL.own 1 rfl (hS.dropN 0)) (h791.rdl 2 rfl) hS) (fun v w hR => ?_) rfl rfl
      obtain ⟨rfl, hS⟩ := hR
      refine bcase (b := !y820) (fun hb822 => ?_) fun hb822 => ?_
      · replace hF := ift hb822 hF
        refine hK _ [(15, .bool (!y820)), (16, .bool (!y820)), (17, .bool (!y820)), (18, undef), (19, undef), (20, undef), (21, undef), (22, undef), (23, .bool true)] _ rfl ?_
        refine dEnd [15, 16, 17, 18, 19, 20, 21, 22, 23] (by kernel_rfl) ⟨puOn rfl rfl rfl rfl [(49, .bool (y792.2 != 0)), (52, .bool y820)] rfl hb819 (fun ac hA => r_not rfl (hA.ev rfl)) rfl, pu rfl rfl [(49, .bool (y792.2 != 0)), (53, .bool (!y820))] (fun ac hA => y_pickf hb819 hA rfl rfl rfl) rfl rfl, pu rfl rfl [(54, .bool (!y820))] (fun ac hA => y_move hA rfl rfl) rfl rfl, puOff rfl rfl rfl rfl [(5, .slice B783 m784 d785), (55, .bool (!y820))] rfl hb822 rfl, puOff rfl rfl rfl rfl [(55, .bool (!y820)), (56, undef)] rfl hb822 rfl, puOff rfl rfl rfl rfl [(3, .slice B115 m116 d117), (55, .bool (!y820))] rfl hb822 rfl, puOff rfl rfl rfl rfl [(55, .bool (!y820)), (58, undef)] rfl hb822 rfl, puOff rfl rfl rfl rfl [(55, .bool (!y820)), (57, undef), (59, undef)] rfl hb822 rfl, pu rfl rfl [(55, .bool (!y820)), (60, undef)] (fun ac hA => y_pickt hb822 hA rfl rfl rfl) rfl rfl, trivial⟩ ⟨by kernel_rfl, by kernel_rfl⟩ [(0, .slice A0 n0 c0), (3, .slice B115 m116 d117), (4, .int .u8 x715), (46, .int .i64 y792.2), (47, .bool (y792.2 != 0)), (50, .slice B794 m795 d796), (51, .slice A0 n0 c0), (52, .bool y820), (53, .bool (!y820)), (61, .bool true)] rfl (fun ac hA => ?_)
        replace hS := hS.drop 0
        replace hS := hS.drop 0
        replace hS := hS.pk 1
        exact hj2 true hF ac w (hA.sub _ rfl) hS
      replace hF := iff' hb822 hF
      refine hK _ [(15, .bool (!y820)), (16, .bool (!y820)), (17, .bool (!y820)), (18, .slice B783 m784 d785), (19, .int .i64 (y781.length : Int)), (20, .slice B115 m116 d117), (21, .int .i64 (y113.length : Int)), (22, .bool (decide ((y781.length : Int) < (y113.length : Int)))), (23, .bool (decide ((y781.length : Int) < (y113.length : Int))))] _ rfl ?_
      refine dEnd [15, 16, 17, 18, 19, 20, 21, 22, 23] (by kernel_rfl) ⟨puOn rfl rfl rfl rfl [(49, .bool (y792.2 != 0)), (52, .bool y820)] rfl hb819 (fun ac hA => r_not rfl (hA.ev rfl)) rfl, pu rfl rfl [(49, .bool (y792.2 != 0)), (53, .bool (!y820))] (fun ac hA => y_pickf hb819 hA rfl rfl rfl) rfl rfl, pu rfl rfl [(54, .bool (!y820))] (fun ac hA => y_move hA rfl rfl) rfl rfl, puOn rfl rfl rfl rfl [(5, .slice B783 m784 d785), (55, .bool (!y820))] rfl hb822 (fun ac hA => y_move hA rfl rfl) rfl, puOn rfl rfl rfl rfl [(55, .bool (!y820)), (56, .slice B783 m784 d785)] rfl hb822 (fun ac hA => y_len Try.underlying22 (hS.imm 2 h789 rfl).2.1 hA rfl rfl) rfl, puOn rfl rfl rfl rfl [(3, .slice B115 m116 d117), (55, .bool (!y820))] rfl hb822 (fun ac hA => y_move hA rfl rfl) rfl, puOn rfl rfl rfl rfl [(55, .bool (!y820)), (58, .slice B115 m116 d117)] rfl hb822 (fun ac hA => y_len Try.underlying22 (hS.rd 3 rfl).2.1 hA rfl rfl) rfl, puOn rfl rfl rfl rfl [(55, .bool (!y820)), (57, .int .i64 (y781.length : Int)), (59, .int .i64 (y113.length : Int))] rfl hb822 (fun ac hA => r_ltI rfl (hA.ev rfl) (hA.ev rfl)) rfl, pu rfl rfl [(55, .bool (!y820)), (60, .bool (decide ((y781.length : Int) < (y113.length : Int))))] (fun ac hA => y_pickf hb822 hA rfl rfl rfl) rfl rfl, trivial⟩ ⟨by kernel_rfl, by kernel_rfl⟩ [(0, .slice A0 n0 c0), (3, .slice B115 m116 d117), (4, .int .u8 x715), (46, .int .i64 y792.2), (47, .bool (y792.2 != 0)), (50, .slice B794 m795 d796), (51, .slice A0 n0 c0), (52, .bool y820), (53, .bool (!y820)), (56, .slice B783 m784 d785), (57, .int .i64 (y781.length : Int)), (58, .slice B115 m116 d117), (59, .int .i64 (y113.length : Int)), (60, .bool (decide ((y781.length : Int) < (y113.length : Int)))), (61, .bool (decide ((y781.length : Int) < (y113.length : Int))))] rfl (fun ac hA => ?_)
      replace hS := hS.drop 0
      replace hS := hS.drop 0
      replace hS := hS.pk 1
      exact hj2 (decide ((y781.length : Int) < (y113.length : Int))) hF ac w (hA.sub _ rfl) hS
    replace hF := iff' hb777 hF
    refine wp_exit ?_
    cases hF
    exact hx773_0 (T773_ _ rfl) Z711 wz712 h713 h714 ac w (hA.sub _ rfl) hS
  refine wp_reg ?_
  obtain ⟨y823, h824, hF⟩ := bnd hF
  refine x_call en10 hA (F_law03_awake (L := zone Z wz :: L) h824 hS) (fun v ac w hR hA => ?_) rfl rfl rfl rfl rfl
  obtain ⟨rfl, hS⟩ := hR
  refine x_val hA (r_not rfl (hA.ev rfl)) (fun ac hA => ?_) rfl rfl rfl
  refine x_move hA (fun ac hA => ?_) rfl rfl rfl rfl rfl
  refine bcase (b := !y823) (fun hb825 => ?_) fun hb825 => ?_
  · replace hF := ift hb825 hF
    refine x_off hb825 hA (fun ac hA => ?_) rfl rfl rfl rfl rfl
    refine x_off hb825 hA (fun ac hA => ?_) rfl rfl rfl rfl rfl
    refine x_off hb825 hA (fun ac hA => ?_) rfl rfl rfl rfl rfl
    refine x_pickt hb825 hA (fun ac hA => ?_) rfl rfl rfl rfl rfl rfl
    refine wpList_nil ?_
    exact hj1 true hF ac w (hA.sub _ rfl) hS
  replace hF := iff' hb825 hF
  refine x_on hb825 hA ?_ rfl rfl rfl
  refine x_move hA (fun ac hA => ?_) rfl rfl rfl rfl rfl
  refine x_on hb825 hA ?_ rfl rfl rfl
  refine x_len Try.underlying37 (hS.imm 0 ha0 rfl).2.1 hA (fun ac hA => ?_) rfl rfl rfl rfl rfl
  refine x_on hb825 hA ?_ rfl rfl rfl
  refine x_val hA (r_gtI rfl (hA.ev rfl) (hA.ev rfl)) (fun ac hA => ?_) rfl rfl rfl
  refine x_pickf hb825 hA (fun ac hA => ?_) rfl rfl rfl rfl rfl rfl
  refine wpList_nil ?_
  exact hj1 (decide (300 < (a0.length : Int))) hF ac w (hA.sub _ rfl) hS

set_option maxHeartbeats 4000000 in
theorem F_law03_ColumnPacked {r : World} {L : List HP} {w : World} {Z : Nat → Prop} {wz : World} (a0 : Int) (a1 : (List Int)) (A1 : Option Addr) (n1 : Nat) (c1 : Nat) {y : (Bool)} (hF : law03_ColumnPacked a0 a1 = some y) (ha1 : Imm Z wz (kI .u8) A1 n1 c1 a1) (hS : SH r (zone Z wz :: L) w) :
    Ret Try.prog 5 #[.int .i64 a0, .slice A1 n1 c1] w fun v w' => ∃ (Z' : Nat → Prop) (wz' : World), v = .bool y ∧ Sub Z wz Z' wz' ∧ SH r (zone Z' wz' :: L) w' := by
  refine enter Try.func5 rfl Try.ntmps5 [(0, .int .i64 a0), (1, .slice A1 n1 c1)] rfl (by simp) ?_
  intro ac hA Qf hQ hQn
  unfold law03_ColumnPacked at hF
  refine wp_seq_k fun K101 hK101 => ?_
  refine wp_reg ?_
  refine x_assign hA (fun ac hA => ?_) rfl rfl rfl rfl rfl
  refine wpList_nil ?_
  refine hK101 _ _ ?_
  refine wp_seq_k fun K102 hK102 => ?_
  refine wp_seq_k fun K103 hK103 => ?_
  have hj1 : ∀ (b108 : Bool), law03_ColumnPacked_j1 a0 a1 b108 = some y → ∀ (ac : Act) (w : World), FR 66 [] ac [(0, .int .i64 a0), (1, .slice A1 n1 c1), (21, .bool b108)] → SH r (zone Z wz :: L) w → K103 ac w := by
    intro b108 hF ac w hA hS
    unfold law03_ColumnPacked_j1 at hF
    refine hK103 _ _ ?_
    refine c_if hA rfl (fun hb109 => ?_) fun hb109 => ?_
    · replace hF := ift hb109 hF
      refine wp_seq_k fun K110 hK110 => ?_
      refine wp_reg ?_
      obtain ⟨y111, h112, hF⟩ := bnd hF
      refine x_call en10 hA (F_law03_awake (L := zone Z wz :: L) h112 hS) (fun v ac w hR hA => ?_) rfl rfl rfl rfl rfl
      obtain ⟨rfl, hS⟩ := hR
      refine x_assign hA (fun ac hA => ?_) rfl rfl rfl rfl rfl
      refine wpList_nil ?_
      refine hK110 _ _ ?_
      refine wp_ret ?_
      cases hF
      refine hQ _ _ ?_
      refine lv Try.results5 hA rfl ?_
      exact ⟨Z, wz, rfl, (Sub.refl _ _), hS⟩
    replace hF := iff' hb109 hF
    refine wp_skip ?_
    refine hK102 _ _ ?_
    refine wp_seq_k fun K113 hK113 => ?_
    refine wp_reg ?_
    refine x_assign hA (fun ac hA => ?_) rfl rfl rfl rfl rfl
    refine wpList_nil ?_
    refine hK113 _ _ ?_
    refine wp_seq_k fun K114 hK114 => ?_
    refine wp_seq_k fun K304 hK304 => ?_
    refine wp_reg ?_
    refine x_assign hA (fun ac hA => ?_) rfl rfl rfl rfl rfl
    refine wpList_nil ?_
    refine hK304 _ _ ?_
    refine wp_block_k fun Kx305 hKx305 => ?_
    have hb1 : ∀ (l397 : (List Int)), law03_ColumnPacked_b1 a1 l397 = some y → ∀ (A398 : Option Addr) (n399 : Nat) (c400 : Nat) (ac : Act) (w : World), FR 66 [] ac [(1, .slice A1 n1 c1), (5, .slice A398 n399 c400)] → SH r (own (kI .i64) 2 A398 n399 c400 l397 :: zone Z wz :: L) w → Kx305 ac w := by
      intro l397 hF A398 n399 c400 ac w hA hS
      unfold law03_ColumnPacked_b1 at hF
      refine hKx305 _ _ ?_
      refine hK114 _ _ ?_
      refine wp_seq_k fun K401 hK401 => ?_
      refine wp_reg ?_
      refine x_move hA (fun ac hA => ?_) rfl rfl rfl rfl rfl
      obtain ⟨y402, h403, hF⟩ := bnd hF
      refine x_call en24 hA (F_column_As (L := own (kI .i64) 2 A398 n399 c400 l397 :: zone Z wz :: L) 3 l397 A398 n399 c400 h403 (RdL.own 0 rfl (hS.dropN 0)) hS) (fun v ac w hR hA => ?_) rfl rfl rfl rfl rfl
      obtain ⟨B404, m405, d406, rfl, hS⟩ := hR
      refine x_assign hA (fun ac hA => ?_) rfl rfl rfl rfl rfl
      refine wpList_nil ?_
      refine hK401 _ _ ?_
      refine wp_seq_k fun K407 hK407 => ?_
      refine wp_reg ?_
      refine x_move hA (fun ac hA => ?_) rfl rfl rfl rfl rfl
      replace hS := hS.pk 2
      replace hS := hS.pk 1
      obtain ⟨Z408, wz409, hS, h410, sb411⟩ := SH.freeze (n := m405) (c := d406) (A := B404) hS
      have h412 := Imm.sub ha1 sb411
      obtain ⟨y413, h414, hF⟩ := bnd hF
      refine x_call en25 hA (F_column_ReadInts (L := zone Z408 wz409 :: own (kI .i64) 2 A398 n399 c400 l397 :: L) y402 B404 m405 d406 h414 0 rfl h410 hS) (fun v ac w hR hA => ?_) rfl rfl rfl rfl rfl
      obtain ⟨B415, m416, d417, rfl, hS⟩ := hR
      refine x_move hA (fun ac hA => ?_) rfl rfl rfl rfl rfl
      refine x_val hA (r_extract rfl (hA.ev rfl) rfl) (fun ac hA => ?_) rfl rfl rfl
      refine x_val hA (r_extract rfl (hA.ev rfl) rfl) (fun ac hA => ?_) rfl rfl rfl
      refine x_assign hA (fun ac hA => ?_) rfl rfl rfl rfl rfl
      refine x_assign hA (fun ac hA => ?_) rfl rfl rfl rfl rfl
      refine wpList_nil ?_
      refine hK407 _ _ ?_
      refine wp_seq_k fun K418 hK418 => ?_
      refine wp_reg ?_
      refine x_move hA (fun ac hA => ?_) rfl rfl rfl rfl rfl
      refine x_val hA (r_eqI rfl (hA.ev rfl) (hA.ev rfl)) (fun ac hA => ?_) rfl rfl rfl
      refine x_move hA (fun ac hA => ?_) rfl rfl rfl rfl rfl
      refine bcase (b := y413.2 == 0) (fun hb419 => ?_) fun hb419 => ?_
      · replace hF := ift hb419 hF
        refine x_on hb419 hA ?_ rfl rfl rfl
        refine x_move hA (fun ac hA => ?_) rfl rfl rfl rfl rfl
        refine x_on hb419 hA ?_ rfl rfl rfl
        refine x_move hA (fun ac hA => ?_) rfl rfl rfl rfl rfl
        refine x_on hb419 hA ?_ rfl rfl rfl
        obtain ⟨y420, h421, hF⟩ := bnd hF
        refine x_call en27 hA (F_law03_ints (L := own (kI .i64) 2 B415 m416 d417 y413.1 :: zone Z408 wz409 :: own (kI .i64) 2 A398 n399 c400 l397 :: L) y413.1 l397 B415 m416 d417 A398 n399 c400 h421 (RdL.own 0 rfl (hS.dropN 0)) (RdL.own 2 rfl (hS.dropN 0)) hS) (fun v ac w hR hA => ?_) rfl rfl rfl rfl rfl
        obtain ⟨rfl, hS⟩ := hR
        refine x_pickt hb419 hA (fun ac hA => ?_) rfl rfl rfl rfl rfl rfl
        refine x_move hA (fun ac hA => ?_) rfl rfl rfl rfl rfl
        refine bcase (b := y420) (fun hb422 => ?_) fun hb422 => ?_
        · replace hF := ift hb422 hF
          refine x_on hb422 hA ?_ rfl rfl rfl
          refine x_move hA (fun ac hA => ?_) rfl rfl rfl rfl rfl
          refine x_on hb422 hA ?_ rfl rfl rfl
          refine x_len Try.underlying22 (hS.imm 1 h410 rfl).2.1 hA (fun ac hA => ?_) rfl rfl rfl rfl rfl
          refine x_on hb422 hA ?_ rfl rfl rfl
          refine x_move hA (fun ac hA => ?_) rfl rfl rfl rfl rfl
          refine x_on hb422 hA ?_ rfl rfl rfl
          refine x_len Try.underlying22 (hS.imm 1 h412 rfl).2.1 hA (fun ac hA => ?_) rfl rfl rfl rfl rfl
          refine x_on hb422 hA ?_ rfl rfl rfl
          obtain ⟨x423, h424, hF⟩ := ltt_ hF
          refine x_val (v := .int .i64 x423) hA (rv_i h424 (r_mul rfl (hA.ev rfl) (hA.ev rfl))) (fun ac hA => ?_) rfl rfl rfl
          refine x_on hb422 hA ?_ rfl rfl rfl
          obtain ⟨x425, h426, hF⟩ := ltt_ hF
          refine x_val (v := .int .i64 x425) hA (rv_i h426 (r_add rfl (hA.ev rfl) (hA.ev rfl))) (fun ac hA => ?_) rfl rfl rfl
          refine x_on hb422 hA ?_ rfl rfl rfl
          obtain ⟨x427, h428, hF⟩ := ltt_ hF
          refine x_val (v := .int .i64 x427) hA (rv_i h428 (r_quo rfl (hA.ev rfl) (hA.ev rfl) (by decide))) (fun ac hA => ?_) rfl rfl rfl
          refine x_on hb422 hA ?_ rfl rfl rfl
          obtain ⟨x429, h430, hF⟩ := ltt_ hF
          refine x_val (v := .int .i64 x429) hA (rv_i h430 (r_add rfl (hA.ev rfl) (hA.ev rfl))) (fun ac hA => ?_) rfl rfl rfl
          refine x_on hb422 hA ?_ rfl rfl rfl
          refine x_val hA (r_leI rfl (hA.ev rfl) (hA.ev rfl)) (fun ac hA => ?_) rfl rfl rfl
          refine x_pickt hb422 hA (fun ac hA => ?_) rfl rfl rfl rfl rfl rfl
          refine x_assign hA (fun ac hA => ?_) rfl rfl rfl rfl rfl
          refine wpList_nil ?_
          refine hK418 _ _ ?_
          refine wp_ret ?_
          replace hS := hS.drop 0
          replace hS := hS.drop 1
          cases hF
          refine hQ _ _ ?_
          refine lv Try.results5 hA rfl ?_
          exact ⟨Z408, wz409, rfl, sb411, hS⟩
        replace hF := iff' hb422 hF
        refine x_off hb422 hA (fun ac hA => ?_) rfl rfl rfl rfl rfl
        refine x_off hb422 hA (fun ac hA => ?_) rfl rfl rfl rfl rfl
        refine x_off hb422 hA (fun ac hA => ?_) rfl rfl rfl rfl rfl
        refine x_off hb422 hA (fun ac hA => ?_) rfl rfl rfl rfl rfl
        refine x_off hb422 hA (fun ac hA => ?_) rfl rfl rfl rfl rfl
        refine x_off hb422 hA (fun ac hA => ?_) rfl rfl rfl rfl rfl
        refine x_off hb422 hA (fun ac hA => ?_) rfl rfl rfl rfl rfl
        refine x_off hb422 hA (fun ac hA => ?_) rfl rfl rfl rfl rfl
        refine x_off hb422 hA (fun ac hA => ?_) rfl rfl rfl rfl rfl
        refine x_pickf hb422 hA (fun ac hA => ?_) rfl rfl rfl rfl rfl rfl
        refine x_assign hA (fun ac hA => ?_) rfl rfl rfl rfl rfl
        refine wpList_nil ?_
        refine hK418 _ _ ?_
        refine wp_ret ?_
        replace hS := hS.drop 0
        replace hS := hS.drop 1
        cases hF
        refine hQ _ _ ?_
        refine lv Try.results5 hA rfl ?_
        exact ⟨Z408, wz409, rfl, sb411, hS⟩
      replace hF := iff' hb419 hF
      refine x_off hb419 hA (fun ac hA => ?_) rfl rfl rfl rfl rfl
      refine x_off hb419 hA (fun ac hA => ?_) rfl rfl rfl rfl rfl
      refine x_off hb419 hA (fun ac hA => ?_) rfl rfl rfl rfl rfl
      refine x_pickf hb419 hA (fun ac hA => ?_) rfl rfl rfl rfl rfl rfl
      refine x_move hA (fun ac hA => ?_) rfl rfl rfl rfl rfl
      refine x_off rfl hA (fun ac hA => ?_) rfl rfl rfl rfl rfl
      refine x_off rfl hA (fun ac hA => ?_) rfl rfl rfl rfl rfl
      refine x_off rfl hA (fun ac hA => ?_) rfl rfl rfl rfl rfl
      refine x_off rfl hA (fun ac hA => ?_) rfl rfl rfl rfl rfl
      refine x_off rfl hA (fun ac hA => ?_) rfl rfl rfl rfl rfl
      refine x_off rfl hA (fun ac hA => ?_) rfl rfl rfl rfl rfl
      refine x_off rfl hA (fun ac hA => ?_) rfl rfl rfl rfl rfl
      refine x_off rfl hA (fun ac hA => ?_) rfl rfl rfl rfl rfl
      refine x_off rfl hA (fun ac hA => ?_) rfl rfl rfl rfl rfl
      refine x_pickf rfl hA (fun ac hA => ?_) rfl rfl rfl rfl rfl rfl
      refine x_assign hA (fun ac hA => ?_) rfl rfl rfl rfl rfl
      refine wpList_nil ?_
      refine hK418 _ _ ?_
      refine wp_ret ?_
      replace hS := hS.drop 0
      replace hS := hS.drop 1
      cases hF
      refine hQ _ _ ?_
      refine lv Try.results5 hA rfl ?_
      exact ⟨Z408, wz409, rfl, sb411, hS⟩
    obtain ⟨t499, hl499, hF⟩ := bnd hF
    have hx499_0 : ∀ (l496 : (List Int)), (l496) = t499 → ∀ (A497 : Option Addr) (n498 : Nat) (c499 : Nat) (ac : Act) (w : World), FR 66 [] ac [(1, .slice A1 n1 c1), (5, .slice A497 n498 c499)] → SH r (own (kI .i64) 2 A497 n498 c499 l496 :: zone Z wz :: L) w → Kx305 ac w := by
      intro l496 ht A497 n498 c499 ac w hA hS
      subst ht
      replace hF : law03_ColumnPacked_x1_0 a1 l496 = some y := hF
      unfold law03_ColumnPacked_x1_0 at hF
      exact hb1 l496 hF A497 n498 c499 ac w (hA.sub _ rfl) hS
    replace hS := SH.nil_own (d := (kI .i64)) (e := 2) hS
    refine wp_loop_fn hl499 (fun s ac w => ∃ (A466 : Option Addr) (n467 : Nat) (c468 : Nat), FR 66 [] ac [(0, .int .i64 a0), (1, .slice A1 n1 c1), (5, .slice A466 n467 c468), (6, .int .i64 s.2)] ∧ SH r (own (kI .i64) 2 A466 n467 c468 s.1 :: zone Z wz :: L) w) ⟨none, 0, 0, hA.sub _ rfl, hS⟩ ?_
    intro N499 s499 o499 hF N499_ T499_ ac w hLab
    obtain ⟨l465, x469⟩ := s499
    replace hF : law03_ColumnPacked_l1 a0 a1 l465 x469 = some o499 := hF
    unfold law03_ColumnPacked_l1 at hF
    try dsimp only at hLab
    obtain ⟨A466, n467, c468, hA, hS⟩ := hLab
    refine wp_seq_k fun K501 hK501 => ?_
    refine wp_seq_k fun K502 hK502 => ?_
    refine wp_reg ?_
    refine x_move hA (fun ac hA => ?_) rfl rfl rfl rfl rfl
    refine x_move hA (fun ac hA => ?_) rfl rfl rfl rfl rfl
    refine x_len Try.underlying22 (hS.imm 1 ha1 rfl).2.1 hA (fun ac hA => ?_) rfl rfl rfl rfl rfl
    refine x_val hA (r_ltI rfl (hA.ev rfl) (hA.ev rfl)) (fun ac hA => ?_) rfl rfl rfl
    refine wpList_nil ?_
    refine hK502 _ _ ?_
    refine c_if hA rfl (fun hb503 => ?_) fun hb503 => ?_
    · replace hF := ift hb503 hF
      refine wp_skip ?_
      refine hK501 _ _ ?_
      refine wp_seq_k fun K504 hK504 => ?_
      refine wp_block_k fun Kx505 hKx505 => ?_
      refine wp_reg ?_
      refine x_move hA (fun ac hA => ?_) rfl rfl rfl rfl rfl
      refine x_move hA (fun ac hA => ?_) rfl rfl rfl rfl rfl
      obtain ⟨x506, h507, hF⟩ := ltt_ hF
      refine x_val (v := .int .i64 x506) hA (rv_i h507 (r_quo rfl (hA.ev rfl) (hA.ev rfl) (by decide))) (fun ac hA => ?_) rfl rfl rfl
      refine x_move hA (fun ac hA => ?_) rfl rfl rfl rfl rfl
      refine x_move hA (fun ac hA => ?_) rfl rfl rfl rfl rfl
      obtain ⟨x508, h509, hF⟩ := bnd hF
      refine x_ia Try.underlying22 sz5 (hS.imm 1 ha1 rfl) h509 hA (fun ac hA => ?_) rfl rfl rfl rfl rfl rfl
      obtain ⟨cs, hV, hc510⟩ := el (hS.imm 1 ha1 rfl) h509
      obtain rfl := hV
      refine x_ld Try.underlying5 (hc510 0 _ rfl) hA (fun ac hA => ?_) rfl rfl rfl rfl rfl rfl
      refine x_val hA (r_rem rfl (hA.ev rfl) (hA.ev rfl) (by decide)) (fun ac hA => ?_) rfl rfl rfl
      obtain ⟨x511, h512, hF⟩ := ltt_ hF
      refine x_val (v := .int .i64 x511) hA (rv_i h512 (r_convI Try.underlying5 Try.underlying2 rfl (hA.ev rfl))) (fun ac hA => ?_) rfl rfl rfl
      obtain ⟨x513, h514, hF⟩ := ltt_ hF
      refine x_val (v := .int .i64 x513) hA (rv_i h514 (r_add rfl (hA.ev rfl) (hA.ev rfl))) (fun ac hA => ?_) rfl rfl rfl
      refine x_bsl (d := (kI .i64)) (e := 2) (ps := #[(0, .int .i64 x513)]) (cells := [.int .i64 x513]) (xs := [x513]) (fun w => by kernel_rfl) rfl ⟨[.int .i64 x513], _, rfl, rfl, rfl⟩ hA hS (fun g515 ac w hS hA => ?_) rfl rfl rfl rfl rfl rfl
      obtain ⟨h516, hF⟩ := chk_some hF
      have hr := hS.rd 0 rfl
      refine x_app 1 inf2 Try.underlying37 hA hS hr.1 hr.2.1 h516 rfl (fun A517 n518 c519 ac w hS hA => ?_) rfl rfl rfl rfl rfl rfl rfl rfl rfl
      refine x_assign hA (fun ac hA => ?_) rfl rfl rfl rfl rfl
      refine wpList_nil ?_
      refine hKx505 _ _ ?_
      refine hK504 _ _ ?_
      refine wp_reg ?_
      refine x_move hA (fun ac hA => ?_) rfl rfl rfl rfl rfl
      obtain ⟨x520, h521, hF⟩ := ltt_ hF
      refine x_val (v := .int .i64 x520) hA (rv_i h521 (r_add rfl (hA.ev rfl) (hA.ev rfl))) (fun ac hA => ?_) rfl rfl rfl
      refine x_assign hA (fun ac hA => ?_) rfl rfl rfl rfl rfl
      refine wpList_nil ?_
      replace hS := hS.drop 1
      cases hF
      exact ⟨_, N499_ _ rfl, A517, n518, c519, hA.sub _ rfl, hS⟩
    replace hF := iff' hb503 hF
    refine wp_exit ?_
    cases hF
    exact hx499_0 l465 (T499_ _ rfl) A466 n467 c468 ac w (hA.sub _ rfl) hS
  refine wp_reg ?_
  obtain ⟨y522, h523, hF⟩ := bnd hF
  refine x_call en10 hA (F_law03_awake (L := zone Z wz :: L) h523 hS) (fun v ac w hR hA => ?_) rfl rfl rfl rfl rfl
  obtain ⟨rfl, hS⟩ := hR
  refine x_val hA (r_not rfl (hA.ev rfl)) (fun ac hA => ?_) rfl rfl rfl
  refine x_move hA (fun ac hA => ?_) rfl rfl rfl rfl rfl
  refine bcase (b := !y522) (fun hb524 => ?_) fun hb524 => ?_
  · replace hF := ift hb524 hF
    refine x_off hb524 hA (fun ac hA => ?_) rfl rfl rfl rfl rfl
    refine x_off hb524 hA (fun ac hA => ?_) rfl rfl rfl rfl rfl
    refine x_off hb524 hA (fun ac hA => ?_) rfl rfl rfl rfl rfl
    refine x_pickt hb524 hA (fun ac hA => ?_) rfl rfl rfl rfl rfl rfl
    refine x_move hA (fun ac hA => ?_) rfl rfl rfl rfl rfl
    refine x_off rfl hA (fun ac hA => ?_) rfl rfl rfl rfl rfl
    refine x_off rfl hA (fun ac hA => ?_) rfl rfl rfl rfl rfl
    refine x_off rfl hA (fun ac hA => ?_) rfl rfl rfl rfl rfl
    refine x_pickt rfl hA (fun ac hA => ?_) rfl rfl rfl rfl rfl rfl
    refine wpList_nil ?_
    exact hj1 true hF ac w (hA.sub _ rfl) hS
  replace hF := iff' hb524 hF
  refine x_on hb524 hA ?_ rfl rfl rfl
  refine x_move hA (fun ac hA => ?_) rfl rfl rfl rfl rfl
  refine x_on hb524 hA ?_ rfl rfl rfl
  refine x_len Try.underlying22 (hS.imm 0 ha1 rfl).2.1 hA (fun ac hA => ?_) rfl rfl rfl rfl rfl
  refine x_on hb524 hA ?_ rfl rfl rfl
  refine x_val hA (r_gtI rfl (hA.ev rfl) (hA.ev rfl)) (fun ac hA => ?_) rfl rfl rfl
  refine x_pickf hb524 hA (fun ac hA => ?_) rfl rfl rfl rfl rfl rfl
  refine x_move hA (fun ac hA => ?_) rfl rfl rfl rfl rfl
  refine bcase (b := decide (200 < (a1.length : Int))) (fun hb525 => ?_) fun hb525 => ?_
  · replace hF := ift hb525 hF
    refine x_off hb525 hA (fun ac hA => ?_) rfl rfl rfl rfl rfl
    refine x_off hb525 hA (fun ac hA => ?_) rfl rfl rfl rfl rfl
    refine x_off hb525 hA (fun ac hA => ?_) rfl rfl rfl rfl rfl
    refine x_pickt hb525 hA (fun ac hA => ?_) rfl rfl rfl rfl rfl rfl
    refine wpList_nil ?_
    exact hj1 true hF ac w (hA.sub _ rfl) hS
  replace hF := iff' hb525 hF
  refine x_on hb525 hA ?_ rfl rfl rfl
  refine x_move hA (fun ac hA => ?_) rfl rfl rfl rfl rfl
  refine x_on hb525 hA ?_ rfl rfl rfl
  refine x_len Try.underlying22 (hS.imm 0 ha1 rfl).2.1 hA (fun ac hA => ?_) rfl rfl rfl rfl rfl
  refine x_on hb525 hA ?_ rfl rfl rfl
  refine x_val hA (r_eqI rfl (hA.ev rfl) (hA.ev rfl)) (fun ac hA => ?_) rfl rfl rfl
  refine x_pickf hb525 hA (fun ac hA => ?_) rfl rfl rfl rfl rfl rfl
  refine wpList_nil ?_
  exact hj1 ((a1.length : Int) == 0) hF ac w (hA.sub _ rfl) hS

set_option maxHeartbeats 4000000 in
theorem F_law03_ColumnFar {r : World} {L : List HP} {w : World} {Z : Nat → Prop} {wz : World} (a0 : (List Bool)) (a1 : Int) (A0 : Option Addr) (n0 : Nat) (c0 : Nat) {y : (Bool)} (hF : law03_ColumnFar a0 a1 = some y) (ha0 : Imm Z wz kB A0 n0 c0 a0) (hS : SH r (zone Z wz :: L) w) :
    Ret Try.prog 6 #[.slice A0 n0 c0, .int .i64 a1] w fun v w' => ∃ (Z' : Nat → Prop) (wz' : World), v = .bool y ∧ Sub Z wz Z' wz' ∧ SH r (zone Z' wz' :: L) w' := by
  refine enter Try.func6 rfl Try.ntmps6 [(0, .slice A0 n0 c0), (1, .int .i64 a1)] rfl (by simp) ?_
  intro ac hA Qf hQ hQn
  unfold law03_ColumnFar at hF
  refine wp_seq_k fun K101 hK101 => ?_
  refine wp_reg ?_
  refine x_assign hA (fun ac hA => ?_) rfl rfl rfl rfl rfl
  refine wpList_nil ?_
  refine hK101 _ _ ?_
  refine wp_seq_k fun K102 hK102 => ?_
  refine wp_seq_k fun K103 hK103 => ?_
  have hj1 : ∀ (b107 : Bool), law03_ColumnFar_j1 a0 a1 b107 = some y → ∀ (ac : Act) (w : World), FR 54 [] ac [(0, .slice A0 n0 c0), (1, .int .i64 a1), (16, .bool b107)] → SH r (zone Z wz :: L) w → K103 ac w := by
    intro b107 hF ac w hA hS
    unfold law03_ColumnFar_j1 at hF
    refine hK103 _ _ ?_
    refine c_if hA rfl (fun hb108 => ?_) fun hb108 => ?_
    · replace hF := ift hb108 hF
      refine wp_seq_k fun K109 hK109 => ?_
      refine wp_reg ?_
      obtain ⟨y110, h111, hF⟩ := bnd hF
      refine x_call en10 hA (F_law03_awake (L := zone Z wz :: L) h111 hS) (fun v ac w hR hA => ?_) rfl rfl rfl rfl rfl
      obtain ⟨rfl, hS⟩ := hR
      refine x_assign hA (fun ac hA => ?_) rfl rfl rfl rfl rfl
      refine wpList_nil ?_
      refine hK109 _ _ ?_
      refine wp_ret ?_
      cases hF
      refine hQ _ _ ?_
      refine lv Try.results6 hA rfl ?_
      exact ⟨Z, wz, rfl, (Sub.refl _ _), hS⟩
    replace hF := iff' hb108 hF
    refine wp_skip ?_
    refine hK102 _ _ ?_
    refine wp_seq_k fun K112 hK112 => ?_
    refine wp_reg ?_
    refine x_assign hA (fun ac hA => ?_) rfl rfl rfl rfl rfl
    refine wpList_nil ?_
    refine hK112 _ _ ?_
    refine wp_seq_k fun K113 hK113 => ?_
    refine wp_seq_k fun K645 hK645 => ?_
    refine wp_reg ?_
    refine x_assign hA (fun ac hA => ?_) rfl rfl rfl rfl rfl
    refine wpList_nil ?_
    refine hK645 _ _ ?_
    refine wp_block_k fun Kx646 hKx646 => ?_
    have hb1 : ∀ (l909 : (List Int)), law03_ColumnFar_b1 l909 = some y → ∀ (A910 : Option Addr) (n911 : Nat) (c912 : Nat) (ac : Act) (w : World), FR 54 [] ac [(5, .slice A910 n911 c912)] → SH r (own (kI .i64) 2 A910 n911 c912 l909 :: zone Z wz :: L) w → Kx646 ac w := by
      intro l909 hF A910 n911 c912 ac w hA hS
      unfold law03_ColumnFar_b1 at hF
      refine hKx646 _ _ ?_
      refine hK113 _ _ ?_
      refine wp_seq_k fun K913 hK913 => ?_
      refine wp_seq_k fun K1150 hK1150 => ?_
      refine wp_reg ?_
      refine x_assign hA (fun ac hA => ?_) rfl rfl rfl rfl rfl
      refine wpList_nil ?_
      refine hK1150 _ _ ?_
      refine wp_block_k fun Kx1151 hKx1151 => ?_
      have hb2 : law03_ColumnFar_b2 = some y → ∀ (Z1267 : Nat → Prop) (wz1268 : World) (h1269 : Sub Z wz Z1267 wz1268) (ac : Act) (w : World), FR 54 [] ac [] → SH r (zone Z1267 wz1268 :: L) w → Kx1151 ac w := by
        intro hF Z1267 wz1268 h1269 ac w hA hS
        unfold law03_ColumnFar_b2 at hF
        refine hKx1151 _ _ ?_
        refine hK913 _ _ ?_
        refine wp_seq_k fun K1270 hK1270 => ?_
        refine wp_reg ?_
        refine x_assign hA (fun ac hA => ?_) rfl rfl rfl rfl rfl
        refine wpList_nil ?_
        refine hK1270 _ _ ?_
        refine wp_ret ?_
        cases hF
        refine hQ _ _ ?_
        refine lv Try.results6 hA rfl ?_
        exact ⟨Z1267, wz1268, rfl, h1269, hS⟩
      obtain ⟨t1351, hl1351, hF⟩ := bnd hF
      have hR1351 := hF
      have hx1351_2 : (.inl ()) = t1351 → ∀ (Z1349 : Nat → Prop) (wz1350 : World) (h1351 : Sub Z wz Z1349 wz1350) (ac : Act) (w : World), FR 54 [] ac [] → SH r (zone Z1349 wz1350 :: L) w → Kx1151 ac w := by
        intro ht Z1349 wz1350 h1351 ac w hA hS
        subst ht
        replace hF : law03_ColumnFar_x1_2 = some y := hF
        unfold law03_ColumnFar_x1_2 at hF
        exact hb2 hF Z1349 wz1350 h1351 ac w (hA.sub _ rfl) hS
      refine wp_loop_fn hl1351 (fun s ac w => ∃ (Z1308 : Nat → Prop) (wz1309 : World), Sub Z wz Z1308 wz1309 ∧ FR 54 [] ac [(5, .slice A910 n911 c912), (7, .int .u8 s)] ∧ SH r (own (kI .i64) 2 A910 n911 c912 l909 :: zone Z1308 wz1309 :: L) w) ⟨Z, wz, (Sub.refl _ _), hA.sub _ rfl, hS⟩ ?_
      intro N1351 s1351 o1351 hF N1351_ T1351_ ac w hLab
      obtain ⟨x1311, rfl⟩ : ∃ q, q = s1351 := ⟨_, rfl⟩
      replace hF : law03_ColumnFar_l1 l909 x1311 = some o1351 := hF
      unfold law03_ColumnFar_l1 at hF
      try dsimp only at hLab
      obtain ⟨Z1308, wz1309, h1310, hA, hS⟩ := hLab
      refine wp_seq_k fun K1353 hK1353 => ?_
      refine wp_seq_k fun K1354 hK1354 => ?_
      refine wp_reg ?_
      refine x_move hA (fun ac hA => ?_) rfl rfl rfl rfl rfl
      refine x_val hA (r_ltI rfl (hA.ev rfl) (hA.ev rfl)) (fun ac hA => ?_) rfl rfl rfl
      refine wpList_nil ?_
      refine hK1354 _ _ ?_
      refine c_if hA rfl (fun hb1355 => ?_) fun hb1355 => ?_
      · replace hF := ift hb1355 hF
        refine wp_skip ?_
        refine hK1353 _ _ ?_
        refine wp_seq_k fun K1356 hK1356 => ?_
        refine wp_block_k fun Kx1357 hKx1357 => ?_
        refine wp_seq_k fun K1358 hK1358 => ?_
        refine wp_reg ?_
        refine x_move hA (fun ac hA => ?_) rfl rfl rfl rfl rfl
        refine x_move hA (fun ac hA => ?_) rfl rfl rfl rfl rfl
        obtain ⟨y1359, h1360, hF⟩ := bnd hF
        refine x_call en24 hA (F_column_As (L := own (kI .i64) 2 A910 n911 c912 l909 :: zone Z1308 wz1309 :: L) x1311 l909 A910 n911 c912 h1360 (RdL.own 0 rfl (hS.dropN 0)) hS) (fun v ac w hR hA => ?_) rfl rfl rfl rfl rfl
        obtain ⟨B1361, m1362, d1363, rfl, hS⟩ := hR
        replace hS := hS.pk 2
        replace hS := hS.pk 1
        obtain ⟨Z1364, wz1365, hS, h1366, sb1367⟩ := SH.freeze (n := m1362) (c := d1363) (A := B1361) hS
        obtain ⟨y1368, h1369, hF⟩ := bnd hF
        refine x_call en25 hA (F_column_ReadInts (L := zone Z1364 wz1365 :: own (kI .i64) 2 A910 n911 c912 l909 :: L) y1359 B1361 m1362 d1363 h1369 0 rfl h1366 hS) (fun v ac w hR hA => ?_) rfl rfl rfl rfl rfl
        obtain ⟨B1370, m1371, d1372, rfl, hS⟩ := hR
        refine x_move hA (fun ac hA => ?_) rfl rfl rfl rfl rfl
        refine x_val hA (r_extract rfl (hA.ev rfl) rfl) (fun ac hA => ?_) rfl rfl rfl
        refine x_val hA (r_extract rfl (hA.ev rfl) rfl) (fun ac hA => ?_) rfl rfl rfl
        refine x_assign hA (fun ac hA => ?_) rfl rfl rfl rfl rfl
        refine x_assign hA (fun ac hA => ?_) rfl rfl rfl rfl rfl
        refine wpList_nil ?_
        refine hK1358 _ _ ?_
        refine wp_seq_k fun K1373 hK1373 => ?_
        have hj2 : ∀ (b1377 : Bool), law03_ColumnFar_j2 x1311 b1377 = some o1351 → ∀ (ac : Act) (w : World), FR 54 [] ac [(5, .slice A910 n911 c912), (7, .int .u8 x1311), (53, .bool b1377)] → SH r (own (kI .i64) 2 A910 n911 c912 l909 :: zone Z1364 wz1365 :: L) w → K1373 ac w := by
          intro b1377 hF ac w hA hS
          unfold law03_ColumnFar_j2 at hF
          refine hK1373 _ _ ?_
          refine c_if hA rfl (fun hb1378 => ?_) fun hb1378 => ?_
          · replace hF := ift hb1378 hF
            refine wp_seq_k fun K1379 hK1379 => ?_
            refine wp_reg ?_
            refine x_assign hA (fun ac hA => ?_) rfl rfl rfl rfl rfl
            refine wpList_nil ?_
            refine hK1379 _ _ ?_
            refine wp_ret ?_
            replace hS := hS.drop 0
            cases hF
            have ht := T1351_ _ rfl
            subst ht
            replace hF := hR1351
            replace hF : some false = some y := hF
            cases hF
            refine hQ _ _ ?_
            refine lv Try.results6 hA rfl ?_
            exact ⟨Z1364, wz1365, rfl, (Sub.trans h1310 sb1367), hS⟩
          replace hF := iff' hb1378 hF
          refine wp_skip ?_
          refine hKx1357 _ _ ?_
          refine hK1356 _ _ ?_
          refine wp_reg ?_
          refine x_move hA (fun ac hA => ?_) rfl rfl rfl rfl rfl
          obtain ⟨x1380, h1381, hF⟩ := ltt_ hF
          refine x_val (v := .int .u8 x1380) hA (rv_i h1381 (r_add rfl (hA.ev rfl) (hA.ev rfl))) (fun ac hA => ?_) rfl rfl rfl
          refine x_assign hA (fun ac hA => ?_) rfl rfl rfl rfl rfl
          refine wpList_nil ?_
          cases hF
          exact ⟨_, N1351_ _ rfl, Z1364, wz1365, (Sub.trans h1310 sb1367), hA.sub _ rfl, hS⟩
        refine wp_reg ?_
        refine x_move hA (fun ac hA => ?_) rfl rfl rfl rfl rfl
        refine x_val hA (r_neI rfl (hA.ev rfl) (hA.ev rfl)) (fun ac hA => ?_) rfl rfl rfl
        refine x_move hA (fun ac hA => ?_) rfl rfl rfl rfl rfl
        refine bcase (b := y1368.2 != 0) (fun hb1382 => ?_) fun hb1382 => ?_
        · replace hF := ift hb1382 hF
          refine x_off hb1382 hA (fun ac hA => ?_) rfl rfl rfl rfl rfl
          refine x_off hb1382 hA (fun ac hA => ?_) rfl rfl rfl rfl rfl
          refine x_off hb1382 hA (fun ac hA => ?_) rfl rfl rfl rfl rfl
          refine x_off hb1382 hA (fun ac hA => ?_) rfl rfl rfl rfl rfl
          refine x_pickt hb1382 hA (fun ac hA => ?_) rfl rfl rfl rfl rfl rfl
          refine wpList_nil ?_
          replace hS := hS.drop 0
          replace hS := hS.pk 1
          exact hj2 true hF ac w (hA.sub _ rfl) hS
        replace hF := iff' hb1382 hF
        refine x_on hb1382 hA ?_ rfl rfl rfl
        refine x_move hA (fun ac hA => ?_) rfl rfl rfl rfl rfl
        refine x_on hb1382 hA ?_ rfl rfl rfl
        refine x_move hA (fun ac hA => ?_) rfl rfl rfl rfl rfl
        refine x_on hb1382 hA ?_ rfl rfl rfl
        obtain ⟨y1383, h1384, hF⟩ := bnd hF
        refine x_call en27 hA (F_law03_ints (L := own (kI .i64) 2 B1370 m1371 d1372 y1368.1 :: zone Z1364 wz1365 :: own (kI .i64) 2 A910 n911 c912 l909 :: L) y1368.1 l909 B1370 m1371 d1372 A910 n911 c912 h1384 (RdL.own 0 rfl (hS.dropN 0)) (RdL.own 2 rfl (hS.dropN 0)) hS) (fun v ac w hR hA => ?_) rfl rfl rfl rfl rfl
        obtain ⟨rfl, hS⟩ := hR
        refine x_on hb1382 hA ?_ rfl rfl rfl
        refine x_val hA (r_not rfl (hA.ev rfl)) (fun ac hA => ?_) rfl rfl rfl
        refine x_pickf hb1382 hA (fun ac hA => ?_) rfl rfl rfl rfl rfl rfl
        refine wpList_nil ?_
        replace hS := hS.drop 0
        replace hS := hS.pk 1
        exact hj2 (!y1383) hF ac w (hA.sub _ rfl) hS
      replace hF := iff' hb1355 hF
      refine wp_exit ?_
      replace hS := hS.drop 0
      cases hF
      exact hx1351_2 (T1351_ _ rfl) Z1308 wz1309 h1310 ac w (hA.sub _ rfl) hS
    obtain ⟨t1567, hl1567, hF⟩ := bnd hF
    have hx1567_0 : ∀ (l1564 : (List Int)), (l1564) = t1567 → ∀ (A1565 : Option Addr) (n1566 : Nat) (c1567 : Nat) (ac : Act) (w : World), FR 54 [] ac [(5, .slice A1565 n1566 c1567)] → SH r (own (kI .i64) 2 A1565 n1566 c1567 l1564 :: zone Z wz :: L) w → Kx646 ac w := by
      intro l1564 ht A1565 n1566 c1567 ac w hA hS
      subst ht
      replace hF : law03_ColumnFar_x2_0 l1564 = some y := hF
      unfold law03_ColumnFar_x2_0 at hF
      exact hb1 l1564 hF A1565 n1566 c1567 ac w (hA.sub _ rfl) hS
    replace hS := SH.nil_own (d := (kI .i64)) (e := 2) hS
    refine wp_loop_fn hl1567 (fun s ac w => ∃ (A1477 : Option Addr) (n1478 : Nat) (c1479 : Nat), FR 54 [] ac [(0, .slice A0 n0 c0), (1, .int .i64 a1), (5, .slice A1477 n1478 c1479), (6, .int .i64 s.2)] ∧ SH r (own (kI .i64) 2 A1477 n1478 c1479 s.1 :: zone Z wz :: L) w) ⟨none, 0, 0, hA.sub _ rfl, hS⟩ ?_
    intro N1567 s1567 o1567 hF N1567_ T1567_ ac w hLab
    obtain ⟨l1476, x1480⟩ := s1567
    replace hF : law03_ColumnFar_l2 a0 a1 l1476 x1480 = some o1567 := hF
    unfold law03_ColumnFar_l2 at hF
    try dsimp only at hLab
    obtain ⟨A1477, n1478, c1479, hA, hS⟩ := hLab
    refine wp_seq_k fun K1569 hK1569 => ?_
    refine wp_seq_k fun K1570 hK1570 => ?_
    refine wp_reg ?_
    refine x_move hA (fun ac hA => ?_) rfl rfl rfl rfl rfl
    refine x_move hA (fun ac hA => ?_) rfl rfl rfl rfl rfl
    refine x_len Try.underlying46 (hS.imm 1 ha0 rfl).2.1 hA (fun ac hA => ?_) rfl rfl rfl rfl rfl
    refine x_val hA (r_ltI rfl (hA.ev rfl) (hA.ev rfl)) (fun ac hA => ?_) rfl rfl rfl
    refine wpList_nil ?_
    refine hK1570 _ _ ?_
    refine c_if hA rfl (fun hb1571 => ?_) fun hb1571 => ?_
    · replace hF := ift hb1571 hF
      refine wp_skip ?_
      refine hK1569 _ _ ?_
      refine wp_seq_k fun K1572 hK1572 => ?_
      refine wp_block_k fun Kx1609 hKx1609 => ?_
      have hb3 : ∀ (l1625 : (List Int)), law03_ColumnFar_b3 x1480 l1625 = some o1567 → ∀ (A1626 : Option Addr) (n1627 : Nat) (c1628 : Nat) (ac : Act) (w : World), FR 54 [] ac [(0, .slice A0 n0 c0), (1, .int .i64 a1), (5, .slice A1626 n1627 c1628), (6, .int .i64 x1480)] → SH r (own (kI .i64) 2 A1626 n1627 c1628 l1625 :: zone Z wz :: L) w → Kx1609 ac w := by
        intro l1625 hF A1626 n1627 c1628 ac w hA hS
        unfold law03_ColumnFar_b3 at hF
        refine hKx1609 _ _ ?_
        refine hK1572 _ _ ?_
        refine wp_reg ?_
        refine x_move hA (fun ac hA => ?_) rfl rfl rfl rfl rfl
        obtain ⟨x1629, h1630, hF⟩ := ltt_ hF
        refine x_val (v := .int .i64 x1629) hA (rv_i h1630 (r_add rfl (hA.ev rfl) (hA.ev rfl))) (fun ac hA => ?_) rfl rfl rfl
        refine x_assign hA (fun ac hA => ?_) rfl rfl rfl rfl rfl
        refine wpList_nil ?_
        cases hF
        exact ⟨_, N1567_ _ rfl, A1626, n1627, c1628, hA.sub _ rfl, hS⟩
      refine wp_seq_k fun K1631 hK1631 => ?_
      refine wp_reg ?_
      refine x_move hA (fun ac hA => ?_) rfl rfl rfl rfl rfl
      refine x_move hA (fun ac hA => ?_) rfl rfl rfl rfl rfl
      obtain ⟨x1632, h1633, hF⟩ := bnd hF
      refine x_ia Try.underlying46 sz4 (hS.imm 1 ha0 rfl) h1633 hA (fun ac hA => ?_) rfl rfl rfl rfl rfl rfl
      obtain ⟨cs, hV, hc1634⟩ := el (hS.imm 1 ha0 rfl) h1633
      obtain rfl := hV
      refine x_ld Try.underlying4 (hc1634 0 _ rfl) hA (fun ac hA => ?_) rfl rfl rfl rfl rfl rfl
      refine wpList_nil ?_
      refine hK1631 _ _ ?_
      refine c_if hA rfl (fun hb1635 => ?_) fun hb1635 => ?_
      · replace hF := ift hb1635 hF
        refine wp_reg ?_
        refine x_move hA (fun ac hA => ?_) rfl rfl rfl rfl rfl
        refine x_move hA (fun ac hA => ?_) rfl rfl rfl rfl rfl
        refine x_bsl (d := (kI .i64)) (e := 2) (ps := #[(0, .int .i64 (-9223372036854775808)), (1, .int .i64 a1)]) (cells := [.int .i64 (-9223372036854775808), .int .i64 a1]) (xs := [-9223372036854775808, a1]) (fun w => by kernel_rfl) rfl ⟨[.int .i64 (-9223372036854775808)], _, rfl, rfl, ⟨[.int .i64 a1], _, rfl, rfl, rfl⟩⟩ hA hS (fun g1636 ac w hS hA => ?_) rfl rfl rfl rfl rfl rfl
        obtain ⟨h1637, hF⟩ := chk_some hF
        have hr := hS.rd 0 rfl
        refine x_app 1 inf2 Try.underlying37 hA hS hr.1 hr.2.1 h1637 rfl (fun A1638 n1639 c1640 ac w hS hA => ?_) rfl rfl rfl rfl rfl rfl rfl rfl rfl
        refine x_assign hA (fun ac hA => ?_) rfl rfl rfl rfl rfl
        refine wpList_nil ?_
        replace hS := hS.drop 1
        exact hb3 (l1476 ++ [-9223372036854775808, a1]) hF A1638 n1639 c1640 ac w (hA.sub _ rfl) hS
      replace hF := iff' hb1635 hF
      refine wp_reg ?_
      refine x_move hA (fun ac hA => ?_) rfl rfl rfl rfl rfl
      refine x_bsl (d := (kI .i64)) (e := 2) (ps := #[(0, .int .i64 9223372036854775807)]) (cells := [.int .i64 9223372036854775807]) (xs := [9223372036854775807]) (fun w => by kernel_rfl) rfl ⟨[.int .i64 9223372036854775807], _, rfl, rfl, rfl⟩ hA hS (fun g1641 ac w hS hA => ?_) rfl rfl rfl rfl rfl rfl
      obtain ⟨h1642, hF⟩ := chk_some hF
      have hr := hS.rd 0 rfl
      refine x_app 1 inf2 Try.underlying37 hA hS hr.1 hr.2.1 h1642 rfl (fun A1643 n1644 c1645 ac w hS hA => ?_) rfl rfl rfl rfl rfl rfl rfl rfl rfl
      refine x_assign hA (fun ac hA => ?_) rfl rfl rfl rfl rfl
      refine wpList_nil ?_
      replace hS := hS.drop 1
      exact hb3 (l1476 ++ [9223372036854775807]) hF A1643 n1644 c1645 ac w (hA.sub _ rfl) hS
    replace hF := iff' hb1571 hF
    refine wp_exit ?_
    cases hF
    exact hx1567_0 l1476 (T1567_ _ rfl) A1477 n1478 c1479 ac w (hA.sub _ rfl) hS
  refine wp_reg ?_
  obtain ⟨y1646, h1647, hF⟩ := bnd hF
  refine x_call en10 hA (F_law03_awake (L := zone Z wz :: L) h1647 hS) (fun v ac w hR hA => ?_) rfl rfl rfl rfl rfl
  obtain ⟨rfl, hS⟩ := hR
  refine x_val hA (r_not rfl (hA.ev rfl)) (fun ac hA => ?_) rfl rfl rfl
  refine x_move hA (fun ac hA => ?_) rfl rfl rfl rfl rfl
  refine bcase (b := !y1646) (fun hb1648 => ?_) fun hb1648 => ?_
  · replace hF := ift hb1648 hF
    refine x_off hb1648 hA (fun ac hA => ?_) rfl rfl rfl rfl rfl
    refine x_off hb1648 hA (fun ac hA => ?_) rfl rfl rfl rfl rfl
    refine x_off hb1648 hA (fun ac hA => ?_) rfl rfl rfl rfl rfl
    refine x_pickt hb1648 hA (fun ac hA => ?_) rfl rfl rfl rfl rfl rfl
    refine wpList_nil ?_
    exact hj1 true hF ac w (hA.sub _ rfl) hS
  replace hF := iff' hb1648 hF
  refine x_on hb1648 hA ?_ rfl rfl rfl
  refine x_move hA (fun ac hA => ?_) rfl rfl rfl rfl rfl
  refine x_on hb1648 hA ?_ rfl rfl rfl
  refine x_len Try.underlying46 (hS.imm 0 ha0 rfl).2.1 hA (fun ac hA => ?_) rfl rfl rfl rfl rfl
  refine x_on hb1648 hA ?_ rfl rfl rfl
  refine x_val hA (r_gtI rfl (hA.ev rfl) (hA.ev rfl)) (fun ac hA => ?_) rfl rfl rfl
  refine x_pickf hb1648 hA (fun ac hA => ?_) rfl rfl rfl rfl rfl rfl
  refine wpList_nil ?_
  exact hj1 (decide (50 < (a0.length : Int))) hF ac w (hA.sub _ rfl) hS
end Go.Proofs.Ythokgnonmcgkcaa.M
