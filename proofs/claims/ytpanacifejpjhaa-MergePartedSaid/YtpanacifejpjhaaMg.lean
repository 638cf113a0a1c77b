/- The calls come to the plain functions. -/
import Derived.Test.YtpanacifejpjhaaMc
import Derived.Test.YtpanacifejpjhaaEj
import Derived.Test.YtpanacifejpjhaaDg
namespace Go.Proofs.Ytpanacifejpjhaa.M
open Go Go.RowKit Go.Proofs.Ytpanacifejpjhaa.E
set_option linter.unusedVariables false
set_option linter.unusedSimpArgs false

set_option maxHeartbeats 4000000 in
theorem F_law09_MergeParted {r : World} {L : List HP} {w : World} {Z : Nat → Prop} {wz : World} (a0 : (List S30)) (a1 : (List Int)) (A0 : Option Addr) (n0 : Nat) (c0 : Nat) (A1 : Option Addr) (n1 : Nat) (c1 : Nat) {y : (Bool)} (hF : law09_MergeParted a0 a1 = some y) (ha0 : Imm Z wz k30 A0 n0 c0 a0) (ha1 : Imm Z wz (kI .u8) A1 n1 c1 a1) (hS : SH r (zone Z wz :: L) w) :
    Ret Try.prog 4 #[.slice A0 n0 c0, .slice A1 n1 c1] w fun v w' => ∃ (Z' : Nat → Prop) (wz' : World), v = .bool y ∧ Sub Z wz Z' wz' ∧ SH r (zone Z' wz' :: L) w' := by
  refine enter Try.func4 rfl Try.ntmps4 [(0, .slice A0 n0 c0), (1, .slice A1 n1 c1)] rfl (by simp) ?_
  intro ac hA Qf hQ hQn
  unfold law09_MergeParted at hF
  refine wp_seq_k fun K101 hK101 => ?_
  refine wp_reg ?_
  refine x_assign hA (fun ac hA => ?_) rfl rfl rfl rfl rfl
  refine wpList_nil ?_
  refine hK101 _ _ ?_
  refine wp_seq_k fun K102 hK102 => ?_
  refine wp_seq_k fun K103 hK103 => ?_
  have hj1 : ∀ (b117 : Bool), law09_MergeParted_j1 a0 a1 b117 = some y → ∀ (Z112 : Nat → Prop) (wz113 : World) (h114 : Sub Z wz Z112 wz113) (h115 : Imm Z112 wz113 k30 A0 n0 c0 a0) (h116 : Imm Z112 wz113 (kI .u8) A1 n1 c1 a1) (ac : Act) (w : World), FR 102 [] ac [(0, .slice A0 n0 c0), (1, .slice A1 n1 c1), (19, .bool b117)] → SH r (zone Z112 wz113 :: L) w → K103 ac w := by
    intro b117 hF Z112 wz113 h114 h115 h116 ac w hA hS
    unfold law09_MergeParted_j1 at hF
    refine hK103 _ _ ?_
    refine c_if hA rfl (fun hb118 => ?_) fun hb118 => ?_
    · replace hF := ift hb118 hF
      refine wp_seq_k fun K119 hK119 => ?_
      refine wp_reg ?_
      obtain ⟨y120, h121, hF⟩ := bnd hF
      refine x_call en10 hA (F_law09_awake (L := L) h121 hS) (fun v ac w hR hA => ?_) rfl rfl rfl rfl rfl
      obtain ⟨Z122, wz123, rfl, h124, hS⟩ := hR
      have h125 := Imm.sub h115 h124
      have h126 := Imm.sub h116 h124
      refine x_assign hA (fun ac hA => ?_) rfl rfl rfl rfl rfl
      refine wpList_nil ?_
      refine hK119 _ _ ?_
      refine wp_ret ?_
      cases hF
      refine hQ _ _ ?_
      refine lv Try.results4 hA rfl ?_
      exact ⟨Z122, wz123, rfl, (Sub.trans h114 h124), hS⟩
    replace hF := iff' hb118 hF
    refine wp_skip ?_
    refine hK102 _ _ ?_
    refine wp_seq_k fun K127 hK127 => ?_
    refine wp_reg ?_
    refine x_move hA (fun ac hA => ?_) rfl rfl rfl rfl rfl
    obtain ⟨y128, h129, hF⟩ := bnd hF
    refine x_call en15 hA (F_r06_Sort (L := zone Z112 wz113 :: L) a0 A0 n0 c0 h129 (h115.rdl 0 rfl) hS) (fun v ac w hR hA => ?_) rfl rfl rfl rfl rfl
    obtain ⟨B130, m131, d132, rfl, hS⟩ := hR
    refine x_assign hA (fun ac hA => ?_) rfl rfl rfl rfl rfl
    refine wpList_nil ?_
    refine hK127 _ _ ?_
    refine wp_seq_k fun K133 hK133 => ?_
    refine wp_reg ?_
    refine x_move hA (fun ac hA => ?_) rfl rfl rfl rfl rfl
    refine x_len Try.underlying37 (hS.imm 1 h116 rfl).2.1 hA (fun ac hA => ?_) rfl rfl rfl rfl rfl
    refine x_val hA (r_rem rfl (hA.ev rfl) (hA.ev rfl) (by decide)) (fun ac hA => ?_) rfl rfl rfl
    refine x_val hA (r_add rfl (hA.ev rfl) (hA.ev rfl)) (fun ac hA => ?_) rfl rfl rfl
    refine x_assign hA (fun ac hA => ?_) rfl rfl rfl rfl rfl
    refine wpList_nil ?_
    refine hK133 _ _ ?_
    refine wp_seq_k fun K134 hK134 => ?_
    refine wp_reg ?_
    refine x_move hA (fun ac hA => ?_) rfl rfl rfl rfl rfl
    obtain ⟨h135, hF⟩ := chk_some hF
    refine x_mks (d := (kH (List S30))) (bytes := 24) ((([] : (List S30)), none, 0, 0) : (List S30) × Hd) inf25 rfl Try.underlying22 h135 hA hS (fun g136 ac w hS hA => ?_) rfl rfl rfl rfl rfl rfl
    replace hS := own2_make (d := k30) (e' := 30) (g := (fun x => x)) (z := ([] : (List S30))) rfl hS
    refine x_assign hA (fun ac hA => ?_) rfl rfl rfl rfl rfl
    refine wpList_nil ?_
    refine hK134 _ _ ?_
    refine wp_seq_k fun K137 hK137 => ?_
    refine wp_seq_k fun K404 hK404 => ?_
    refine wp_reg ?_
    refine x_assign hA (fun ac hA => ?_) rfl rfl rfl rfl rfl
    refine wpList_nil ?_
    refine hK404 _ _ ?_
    refine wp_block_k fun Kx405 hKx405 => ?_
    have hb1 : ∀ (l537 : (List (List S30))), law09_MergeParted_b1 y128 l537 = some y → ∀ (ac : Act) (w : World), FR 102 [] ac [(5, .slice B130 m131 d132), (7, .slice (some ⟨g136, 0, none⟩) ((IntKind.i64.wrap (1 + ((a1.length : Int).tmod 16))).toNat) ((IntKind.i64.wrap (1 + ((a1.length : Int).tmod 16))).toNat))] → SH r (own k30 30 B130 m131 d132 y128 :: own2 (kH (List S30)) k30 30 (fun x => x) 25 (some ⟨g136, 0, none⟩) ((IntKind.i64.wrap (1 + ((a1.length : Int).tmod 16))).toNat) ((IntKind.i64.wrap (1 + ((a1.length : Int).tmod 16))).toNat) l537 :: zone Z112 wz113 :: L) w → Kx405 ac w := by
      intro l537 hF ac w hA hS
      unfold law09_MergeParted_b1 at hF
      refine hKx405 _ _ ?_
      refine hK137 _ _ ?_
      refine wp_seq_k fun K538 hK538 => ?_
      refine wp_reg ?_
      refine x_move hA (fun ac hA => ?_) rfl rfl rfl rfl rfl
      replace hS := hS.pk 2
      replace hS := hS.pk 2
      obtain ⟨Z539, wz540, hS, h541, sb542⟩ := SH.freeze2 (n := (IntKind.i64.wrap (1 + ((a1.length : Int).tmod 16))).toNat) (c := (IntKind.i64.wrap (1 + ((a1.length : Int).tmod 16))).toNat) (A := (some ⟨g136, 0, none⟩)) hS
      obtain ⟨y543, h544, hF⟩ := bnd hF
      refine x_call en14 hA (F_merge_All (L := zone Z539 wz540 :: own k30 30 B130 m131 d132 y128 :: L) l537 (some ⟨g136, 0, none⟩) ((IntKind.i64.wrap (1 + ((a1.length : Int).tmod 16))).toNat) ((IntKind.i64.wrap (1 + ((a1.length : Int).tmod 16))).toNat) h544 0 rfl (h541.rdl 0 rfl) hS) (fun v ac w hR hA => ?_) rfl rfl rfl rfl rfl
      obtain ⟨B545, m546, d547, rfl, hS⟩ := hR
      refine x_move hA (fun ac hA => ?_) rfl rfl rfl rfl rfl
      refine x_val hA (r_extract rfl (hA.ev rfl) rfl) (fun ac hA => ?_) rfl rfl rfl
      refine x_val hA (r_extract rfl (hA.ev rfl) rfl) (fun ac hA => ?_) rfl rfl rfl
      refine x_assign hA (fun ac hA => ?_) rfl rfl rfl rfl rfl
      refine x_assign hA (fun ac hA => ?_) rfl rfl rfl rfl rfl
      refine wpList_nil ?_
      refine hK538 _ _ ?_
      refine wp_seq_k fun K548 hK548 => ?_
      refine wp_seq_k fun K549 hK549 => ?_
      have hj2 : ∀ (b551 : Bool), law09_MergeParted_j2 y128 y543 b551 = some y → ∀ (ac : Act) (w : World), FR 102 [] ac [(5, .slice B130 m131 d132), (10, .slice B545 m546 d547), (75, .bool b551)] → SH r (own k30 30 B130 m131 d132 y128 :: own k30 30 B545 m546 d547 y543.1 :: zone Z539 wz540 :: L) w → K549 ac w := by
        intro b551 hF ac w hA hS
        unfold law09_MergeParted_j2 at hF
        refine hK549 _ _ ?_
        refine c_if hA rfl (fun hb552 => ?_) fun hb552 => ?_
        · replace hF := ift hb552 hF
          refine wp_seq_k fun K553 hK553 => ?_
          refine wp_reg ?_
          refine x_assign hA (fun ac hA => ?_) rfl rfl rfl rfl rfl
          refine wpList_nil ?_
          refine hK553 _ _ ?_
          refine wp_ret ?_
          replace hS := hS.drop 0
          replace hS := hS.drop 0
          cases hF
          refine hQ _ _ ?_
          refine lv Try.results4 hA rfl ?_
          exact ⟨Z539, wz540, rfl, (Sub.trans h114 sb542), hS⟩
        replace hF := iff' hb552 hF
        refine wp_skip ?_
        refine hK548 _ _ ?_
        refine wp_seq_k fun K554 hK554 => ?_
        refine wp_seq_k fun K782 hK782 => ?_
        refine wp_reg ?_
        refine x_assign hA (fun ac hA => ?_) rfl rfl rfl rfl rfl
        refine wpList_nil ?_
        refine hK782 _ _ ?_
        refine wp_block_k fun Kx783 hKx783 => ?_
        have hb2 : law09_MergeParted_b2 = some y → ∀ (ac : Act) (w : World), FR 102 [] ac [] → SH r (zone Z539 wz540 :: L) w → Kx783 ac w := by
          intro hF ac w hA hS
          unfold law09_MergeParted_b2 at hF
          refine hKx783 _ _ ?_
          refine hK554 _ _ ?_
          refine wp_seq_k fun K896 hK896 => ?_
          refine wp_reg ?_
          refine x_assign hA (fun ac hA => ?_) rfl rfl rfl rfl rfl
          refine wpList_nil ?_
          refine hK896 _ _ ?_
          refine wp_ret ?_
          cases hF
          refine hQ _ _ ?_
          refine lv Try.results4 hA rfl ?_
          exact ⟨Z539, wz540, rfl, (Sub.trans h114 sb542), hS⟩
        obtain ⟨t971, hl971, hF⟩ := bnd hF
        have hR971 := hF
        have hx971_2 : (.inl ()) = t971 → ∀ (ac : Act) (w : World), FR 102 [] ac [] → SH r (zone Z539 wz540 :: L) w → Kx783 ac w := by
          intro ht ac w hA hS
          subst ht
          replace hF : law09_MergeParted_x1_2 = some y := hF
          unfold law09_MergeParted_x1_2 at hF
          exact hb2 hF ac w (hA.sub _ rfl) hS
        refine wp_loop_fn hl971 (fun s ac w => FR 102 [] ac [(5, .slice B130 m131 d132), (10, .slice B545 m546 d547), (12, .int .i64 s)] ∧ SH r (own k30 30 B130 m131 d132 y128 :: own k30 30 B545 m546 d547 y543.1 :: zone Z539 wz540 :: L) w) ⟨hA.sub _ rfl, hS⟩ ?_
        intro N971 s971 o971 hF N971_ T971_ ac w hLab
        obtain ⟨x934, rfl⟩ : ∃ q, q = s971 := ⟨_, rfl⟩
        replace hF : law09_MergeParted_l1 y128 y543 x934 = some o971 := hF
        unfold law09_MergeParted_l1 at hF
        try dsimp only at hLab
        obtain ⟨hA, hS⟩ := hLab
        refine wp_seq_k fun K973 hK973 => ?_
        refine wp_seq_k fun K974 hK974 => ?_
        refine wp_reg ?_
        refine x_move hA (fun ac hA => ?_) rfl rfl rfl rfl rfl
        refine x_move hA (fun ac hA => ?_) rfl rfl rfl rfl rfl
        refine x_len Try.underlying25 (hS.rd 0 rfl).2.1 hA (fun ac hA => ?_) rfl rfl rfl rfl rfl
        refine x_val hA (r_ltI rfl (hA.ev rfl) (hA.ev rfl)) (fun ac hA => ?_) rfl rfl rfl
        refine wpList_nil ?_
        refine hK974 _ _ ?_
        refine c_if hA rfl (fun hb975 => ?_) fun hb975 => ?_
        · replace hF := ift hb975 hF
          refine wp_skip ?_
          refine hK973 _ _ ?_
          refine wp_seq_k fun K976 hK976 => ?_
          refine wp_block_k fun Kx977 hKx977 => ?_
          refine wp_seq_k fun K978 hK978 => ?_
          have hj3 : ∀ (b992 : Bool), law09_MergeParted_j3 x934 b992 = some o971 → ∀ (ac : Act) (w : World), FR 102 [] ac [(5, .slice B130 m131 d132), (10, .slice B545 m546 d547), (12, .int .i64 x934), (101, .bool b992)] → SH r (own k30 30 B130 m131 d132 y128 :: own k30 30 B545 m546 d547 y543.1 :: zone Z539 wz540 :: L) w → K978 ac w := by
            intro b992 hF ac w hA hS
            unfold law09_MergeParted_j3 at hF
            refine hK978 _ _ ?_
            refine c_if hA rfl (fun hb993 => ?_) fun hb993 => ?_
            · replace hF := ift hb993 hF
              refine wp_seq_k fun K994 hK994 => ?_
              refine wp_reg ?_
              refine x_assign hA (fun ac hA => ?_) rfl rfl rfl rfl rfl
              refine wpList_nil ?_
              refine hK994 _ _ ?_
              refine wp_ret ?_
              replace hS := hS.drop 0
              replace hS := hS.drop 0
              cases hF
              have ht := T971_ _ rfl
              subst ht
              replace hF := hR971
              replace hF : some false = some y := hF
              cases hF
              refine hQ _ _ ?_
              refine lv Try.results4 hA rfl ?_
              exact ⟨Z539, wz540, rfl, (Sub.trans h114 sb542), hS⟩
            replace hF := iff' hb993 hF
            refine wp_skip ?_
            refine hKx977 _ _ ?_
            refine hK976 _ _ ?_
            refine wp_reg ?_
            refine x_move hA (fun ac hA => ?_) rfl rfl rfl rfl rfl
            refine x_val hA (r_add rfl (hA.ev rfl) (hA.ev rfl)) (fun ac hA => ?_) rfl rfl rfl
            refine x_assign hA (fun ac hA => ?_) rfl rfl rfl rfl rfl
            refine wpList_nil ?_
            cases hF
            exact ⟨_, N971_ _ rfl, hA.sub _ rfl, hS⟩
          refine wp_draw [0, 0, 3, 7, 0, 0, 48, 112, 255, 511, 1023, 1023, 4095, 8191, 1023, 1023, 50175, 115711, 262143, 524287] [8, 18] rfl hA hS (by kernel_rfl) (by kernel_rfl) (by kernel_rfl) (by kernel_rfl) fun w hS => ?_
          obtain ⟨x995, h996, hF⟩ := bnd hF
          obtain ⟨cs, hV, hc997⟩ := el (hS.rd 0 rfl) h996
          obtain rfl := hV
          obtain ⟨x998, h999, hF⟩ := bnd hF
          obtain ⟨cs, hV, hc1000⟩ := el (hS.rd 1 rfl) h999
          obtain rfl := hV
          refine ⟨[(0, .slice B130 m131 d132), (1, .int .i64 x934), (2, .pointer (some (ea B130 (x934.toNat * 5)))), (3, .agg #[.int .u64 x995.f0, .int .i64 x995.f1, .int .i64 x995.f2, str x995.f3, .float .f64 x995.f4]), (4, .slice B545 m546 d547), (5, .int .i64 x934), (6, .pointer (some (ea B545 (x934.toNat * 5)))), (7, .agg #[.int .u64 x998.f0, .int .i64 x998.f1, .int .i64 x998.f2, str x998.f3, .float .f64 x998.f4])], ?_⟩
          refine dEff [0, 1, 2, 3, 4, 5, 6, 7] [8] (by kernel_rfl) ⟨pu rfl rfl [(5, .slice B130 m131 d132)] (fun ac hA => y_move hA rfl rfl) rfl rfl, pu rfl rfl [(12, .int .i64 x934)] (fun ac hA => y_move hA rfl rfl) rfl rfl, pu rfl rfl [(82, .slice B130 m131 d132), (83, .int .i64 x934)] (fun ac hA => y_ia Try.underlying25 sz30 (hS.rd 0 rfl) h996 hA rfl rfl rfl) rfl rfl, pu rfl rfl [(84, .pointer (some (ea B130 (x934.toNat * 5))))] (fun ac hA => y_lda (cs := [.int .u64 x995.f0, .int .i64 x995.f1, .int .i64 x995.f2, str x995.f3, .float .f64 x995.f4]) Try.underlying30 sz30 (fun j u h => by rw [ea_add]; exact hc997 _ _ h) hA rfl rfl rfl) rfl rfl, pu rfl rfl [(10, .slice B545 m546 d547)] (fun ac hA => y_move hA rfl rfl) rfl rfl, pu rfl rfl [(12, .int .i64 x934)] (fun ac hA => y_move hA rfl rfl) rfl rfl, pu rfl rfl [(86, .slice B545 m546 d547), (87, .int .i64 x934)] (fun ac hA => y_ia Try.underlying25 sz30 (hS.rd 1 rfl) h999 hA rfl rfl rfl) rfl rfl, pu rfl rfl [(88, .pointer (some (ea B545 (x934.toNat * 5))))] (fun ac hA => y_lda (cs := [.int .u64 x998.f0, .int .i64 x998.f1, .int .i64 x998.f2, str x998.f3, .float .f64 x998.f4]) Try.underlying30 sz30 (fun j u h => by rw [ea_add]; exact hc1000 _ _ h) hA rfl rfl rfl) rfl rfl, trivial⟩ (by kernel_rfl) (by kernel_rfl) ⟨ef rfl [(85, .agg #[.int .u64 x995.f0, .int .i64 x995.f1, .int .i64 x995.f2, str x995.f3, .float .f64 x995.f4]), (89, .agg #[.int .u64 x998.f0, .int .i64 x998.f1, .int .i64 x998.f2, str x998.f3, .float .f64 x998.f4])] (fun ac hA K hK => ?_) rfl rfl, trivial⟩
          obtain ⟨y1001, h1002, hF⟩ := bnd hF
          refine z_call en12 hA (F_r06_Before (L := own k30 30 B130 m131 d132 y128 :: own k30 30 B545 m546 d547 y543.1 :: zone Z539 wz540 :: L) x995 x998 h1002 hS) (fun v w hR => ?_) rfl rfl
          obtain ⟨rfl, hS⟩ := hR
          refine bcase (b := y1001) (fun hb1003 => ?_) fun hb1003 => ?_
          · replace hF := ift hb1003 hF
            refine hK _ [(9, .bool y1001), (10, undef), (11, undef), (12, undef), (13, undef), (14, undef), (15, undef), (16, undef), (17, undef)] _ rfl ?_
            refine dEff [9, 10, 11, 12, 13, 14, 15, 16, 17] [18] (by kernel_rfl) ⟨pu rfl rfl [(90, .bool y1001)] (fun ac hA => y_move hA rfl rfl) rfl rfl, puOff rfl rfl rfl rfl [(10, .slice B545 m546 d547), (91, .bool y1001)] rfl hb1003 rfl, puOff rfl rfl rfl rfl [(12, .int .i64 x934), (91, .bool y1001)] rfl hb1003 rfl, puOff rfl rfl rfl rfl [(91, .bool y1001), (92, undef), (93, undef)] rfl hb1003 rfl, puOff rfl rfl rfl rfl [(91, .bool y1001), (94, undef)] rfl hb1003 rfl, puOff rfl rfl rfl rfl [(5, .slice B130 m131 d132), (91, .bool y1001)] rfl hb1003 rfl, puOff rfl rfl rfl rfl [(12, .int .i64 x934), (91, .bool y1001)] rfl hb1003 rfl, puOff rfl rfl rfl rfl [(91, .bool y1001), (96, undef), (97, undef)] rfl hb1003 rfl, puOff rfl rfl rfl rfl [(91, .bool y1001), (98, undef)] rfl hb1003 rfl, trivial⟩ (by kernel_rfl) (by kernel_rfl) ⟨?_, trivial⟩
            refine efOff rfl rfl rfl [(91, .bool y1001), (95, undef), (99, undef)] rfl [(19, .bool true)] hb1003 rfl ?_ rfl
            refine dEnd [19] (by kernel_rfl) ⟨pu rfl rfl [(91, .bool y1001), (100, undef)] (fun ac hA => y_pickt hb1003 hA rfl rfl rfl) rfl rfl, trivial⟩ ⟨by kernel_rfl, by kernel_rfl⟩ [(5, .slice B130 m131 d132), (10, .slice B545 m546 d547), (12, .int .i64 x934), (101, .bool true)] rfl (fun ac hA => ?_)
            exact hj3 true hF ac w (hA.sub _ rfl) hS
          replace hF := iff' hb1003 hF
          obtain ⟨cs, hV, hc1004⟩ := el (hS.rd 1 rfl) h999
          obtain rfl := hV
          obtain ⟨cs, hV, hc1005⟩ := el (hS.rd 0 rfl) h996
          obtain rfl := hV
          refine hK _ [(9, .bool y1001), (10, .slice B545 m546 d547), (11, .int .i64 x934), (12, .pointer (some (ea B545 (x934.toNat * 5)))), (13, .agg #[.int .u64 x998.f0, .int .i64 x998.f1, .int .i64 x998.f2, str x998.f3, .float .f64 x998.f4]), (14, .slice B130 m131 d132), (15, .int .i64 x934), (16, .pointer (some (ea B130 (x934.toNat * 5)))), (17, .agg #[.int .u64 x995.f0, .int .i64 x995.f1, .int .i64 x995.f2, str x995.f3, .float .f64 x995.f4])] _ rfl ?_
          refine dEff [9, 10, 11, 12, 13, 14, 15, 16, 17] [18] (by kernel_rfl) ⟨pu rfl rfl [(90, .bool y1001)] (fun ac hA => y_move hA rfl rfl) rfl rfl, puOn rfl rfl rfl rfl [(10, .slice B545 m546 d547), (91, .bool y1001)] rfl hb1003 (fun ac hA => y_move hA rfl rfl) rfl, puOn rfl rfl rfl rfl [(12, .int .i64 x934), (91, .bool y1001)] rfl hb1003 (fun ac hA => y_move hA rfl rfl) rfl, puOn rfl rfl rfl rfl [(91, .bool y1001), (92, .slice B545 m546 d547), (93, .int .i64 x934)] rfl hb1003 (fun ac hA => y_ia Try.underlying25 sz30 (hS.rd 1 rfl) h999 hA rfl rfl rfl) rfl, puOn rfl rfl rfl rfl [(91, .bool y1001), (94, .pointer (some (ea B545 (x934.toNat * 5))))] rfl hb1003 (fun ac hA => y_lda (cs := [.int .u64 x998.f0, .int .i64 x998.f1, .int .i64 x998.f2, str x998.f3, .float .f64 x998.f4]) Try.underlying30 sz30 (fun j u h => by rw [ea_add]; exact hc1004 _ _ h) hA rfl rfl rfl) rfl, puOn rfl rfl rfl rfl [(5, .slice B130 m131 d132), (91, .bool y1001)] rfl hb1003 (fun ac hA => y_move hA rfl rfl) rfl, puOn rfl rfl rfl rfl [(12, .int .i64 x934), (91, .bool y1001)] rfl hb1003 (fun ac hA => y_move hA rfl rfl) rfl, puOn rfl rfl rfl rfl [(91, .bool y1001), (96, .slice B130 m131 d132), (97, .int .i64 x934)] rfl hb1003 (fun ac hA => y_ia Try.underlying25 sz30 (hS.rd 0 rfl) h996 hA rfl rfl rfl) rfl, puOn rfl rfl rfl rfl [(91, .bool y1001), (98, .pointer (some (ea B130 (x934.toNat * 5))))] rfl hb1003 (fun ac hA => y_lda (cs := [.int .u64 x995.f0, .int .i64 x995.f1, .int .i64 x995.f2, str x995.f3, .float .f64 x995.f4]) Try.underlying30 sz30 (fun j u h => by rw [ea_add]; exact hc1005 _ _ h) hA rfl rfl rfl) rfl, trivial⟩ (by kernel_rfl) (by kernel_rfl) ⟨efOn rfl rfl rfl [(91, .bool y1001), (95, .agg #[.int .u64 x998.f0, .int .i64 x998.f1, .int .i64 x998.f2, str x998.f3, .float .f64 x998.f4]), (99, .agg #[.int .u64 x995.f0, .int .i64 x995.f1, .int .i64 x995.f2, str x995.f3, .float .f64 x995.f4])] rfl hb1003 (fun ac hA K hK => ?_) rfl, trivial⟩
          obtain ⟨y1006, h1007, hF⟩ := bnd hF
          refine z_call en12 hA (F_r06_Before (L := own k30 30 B130 m131 d132 y128 :: own k30 30 B545 m546 d547 y543.1 :: zone Z539 wz540 :: L) x998 x995 h1007 hS) (fun v w hR => ?_) rfl rfl
          obtain ⟨rfl, hS⟩ := hR
          refine hK _ [(19, .bool y1006)] _ rfl ?_
          refine dEnd [19] (by kernel_rfl) ⟨pu rfl rfl [(91, .bool y1001), (100, .bool y1006)] (fun ac hA => y_pickf hb1003 hA rfl rfl rfl) rfl rfl, trivial⟩ ⟨by kernel_rfl, by kernel_rfl⟩ [(5, .slice B130 m131 d132), (10, .slice B545 m546 d547), (12, .int .i64 x934), (92, .slice B545 m546 d547), (93, .int .i64 x934), (95, .agg #[.int .u64 x998.f0, .int .i64 x998.f1, .int .i64 x998.f2, str x998.f3, .float .f64 x998.f4]), (96, .slice B130 m131 d132), (97, .int .i64 x934), (99, .agg #[.int .u64 x995.f0, .int .i64 x995.f1, .int .i64 x995.f2, str x995.f3, .float .f64 x995.f4]), (100, .bool y1006), (101, .bool y1006)] rfl (fun ac hA => ?_)
          exact hj3 y1006 hF ac w (hA.sub _ rfl) hS
        replace hF := iff' hb975 hF
        refine wp_exit ?_
        replace hS := hS.drop 0
        replace hS := hS.drop 0
        cases hF
        exact hx971_2 (T971_ _ rfl) ac w (hA.sub _ rfl) hS
      refine wp_reg ?_
      refine x_move hA (fun ac hA => ?_) rfl rfl rfl rfl rfl
      refine x_val hA (r_neI rfl (hA.ev rfl) (hA.ev rfl)) (fun ac hA => ?_) rfl rfl rfl
      refine x_move hA (fun ac hA => ?_) rfl rfl rfl rfl rfl
      refine bcase (b := y543.2 != 0) (fun hb1008 => ?_) fun hb1008 => ?_
      · replace hF := ift hb1008 hF
        refine x_off hb1008 hA (fun ac hA => ?_) rfl rfl rfl rfl rfl
        refine x_off hb1008 hA (fun ac hA => ?_) rfl rfl rfl rfl rfl
        refine x_off hb1008 hA (fun ac hA => ?_) rfl rfl rfl rfl rfl
        refine x_off hb1008 hA (fun ac hA => ?_) rfl rfl rfl rfl rfl
        refine x_off hb1008 hA (fun ac hA => ?_) rfl rfl rfl rfl rfl
        refine x_pickt hb1008 hA (fun ac hA => ?_) rfl rfl rfl rfl rfl rfl
        refine wpList_nil ?_
        replace hS := hS.pk 1
        replace hS := hS.pk 1
        replace hS := hS.pk 2
        exact hj2 true hF ac w (hA.sub _ rfl) hS
      replace hF := iff' hb1008 hF
      refine x_on hb1008 hA ?_ rfl rfl rfl
      refine x_move hA (fun ac hA => ?_) rfl rfl rfl rfl rfl
      refine x_on hb1008 hA ?_ rfl rfl rfl
      refine x_len Try.underlying25 (hS.rd 0 rfl).2.1 hA (fun ac hA => ?_) rfl rfl rfl rfl rfl
      refine x_on hb1008 hA ?_ rfl rfl rfl
      refine x_move hA (fun ac hA => ?_) rfl rfl rfl rfl rfl
      refine x_on hb1008 hA ?_ rfl rfl rfl
      refine x_len Try.underlying25 (hS.rd 2 rfl).2.1 hA (fun ac hA => ?_) rfl rfl rfl rfl rfl
      refine x_on hb1008 hA ?_ rfl rfl rfl
      refine x_val hA (r_neI rfl (hA.ev rfl) (hA.ev rfl)) (fun ac hA => ?_) rfl rfl rfl
      refine x_pickf hb1008 hA (fun ac hA => ?_) rfl rfl rfl rfl rfl rfl
      refine wpList_nil ?_
      replace hS := hS.pk 1
      replace hS := hS.pk 1
      replace hS := hS.pk 2
      exact hj2 ((y543.1.length : Int) != (y128.length : Int)) hF ac w (hA.sub _ rfl) hS
    obtain ⟨t1097, hl1097, hF⟩ := bnd hF
    have hx1097_0 : ∀ (l1097 : (List (List S30))), (l1097) = t1097 → ∀ (ac : Act) (w : World), FR 102 [] ac [(5, .slice B130 m131 d132), (7, .slice (some ⟨g136, 0, none⟩) ((IntKind.i64.wrap (1 + ((a1.length : Int).tmod 16))).toNat) ((IntKind.i64.wrap (1 + ((a1.length : Int).tmod 16))).toNat))] → SH r (own k30 30 B130 m131 d132 y128 :: own2 (kH (List S30)) k30 30 (fun x => x) 25 (some ⟨g136, 0, none⟩) ((IntKind.i64.wrap (1 + ((a1.length : Int).tmod 16))).toNat) ((IntKind.i64.wrap (1 + ((a1.length : Int).tmod 16))).toNat) l1097 :: zone Z112 wz113 :: L) w → Kx405 ac w := by
      intro l1097 ht ac w hA hS
      subst ht
      replace hF : law09_MergeParted_x2_0 y128 l1097 = some y := hF
      unfold law09_MergeParted_x2_0 at hF
      exact hb1 l1097 hF ac w (hA.sub _ rfl) hS
    replace hS := hS.pk 2
    replace hS := hS.pk 1
    replace hS := hS.pk 2
    refine wp_loop_fn hl1097 (fun s ac w => FR 102 [] ac [(1, .slice A1 n1 c1), (5, .slice B130 m131 d132), (6, .int .i64 (IntKind.i64.wrap (1 + ((a1.length : Int).tmod 16)))), (7, .slice (some ⟨g136, 0, none⟩) ((IntKind.i64.wrap (1 + ((a1.length : Int).tmod 16))).toNat) ((IntKind.i64.wrap (1 + ((a1.length : Int).tmod 16))).toNat)), (8, .int .i64 s.2)] ∧ SH r (own k30 30 B130 m131 d132 y128 :: own2 (kH (List S30)) k30 30 (fun x => x) 25 (some ⟨g136, 0, none⟩) ((IntKind.i64.wrap (1 + ((a1.length : Int).tmod 16))).toNat) ((IntKind.i64.wrap (1 + ((a1.length : Int).tmod 16))).toNat) s.1 :: zone Z112 wz113 :: L) w) ⟨hA.sub _ rfl, hS⟩ ?_
    intro N1097 s1097 o1097 hF N1097_ T1097_ ac w hLab
    obtain ⟨l1052, x1053⟩ := s1097
    replace hF : law09_MergeParted_l2 a1 y128 l1052 x1053 = some o1097 := hF
    unfold law09_MergeParted_l2 at hF
    try dsimp only at hLab
    obtain ⟨hA, hS⟩ := hLab
    refine wp_seq_k fun K1099 hK1099 => ?_
    refine wp_seq_k fun K1100 hK1100 => ?_
    refine wp_reg ?_
    refine x_move hA (fun ac hA => ?_) rfl rfl rfl rfl rfl
    refine x_move hA (fun ac hA => ?_) rfl rfl rfl rfl rfl
    refine x_len Try.underlying25 (hS.rd 0 rfl).2.1 hA (fun ac hA => ?_) rfl rfl rfl rfl rfl
    refine x_val hA (r_ltI rfl (hA.ev rfl) (hA.ev rfl)) (fun ac hA => ?_) rfl rfl rfl
    refine wpList_nil ?_
    refine hK1100 _ _ ?_
    refine c_if hA rfl (fun hb1101 => ?_) fun hb1101 => ?_
    · replace hF := ift hb1101 hF
      refine wp_skip ?_
      refine hK1099 _ _ ?_
      refine wp_seq_k fun K1102 hK1102 => ?_
      refine wp_block_k fun Kx1103 hKx1103 => ?_
      refine wp_seq_k fun K1104 hK1104 => ?_
      refine wp_reg ?_
      refine x_move hA (fun ac hA => ?_) rfl rfl rfl rfl rfl
      refine x_move hA (fun ac hA => ?_) rfl rfl rfl rfl rfl
      obtain ⟨h1105, hF⟩ := chk_some hF
      refine x_val hA (r_rem rfl (hA.ev rfl) (hA.ev rfl) h1105) (fun ac hA => ?_) rfl rfl rfl
      refine x_assign hA (fun ac hA => ?_) rfl rfl rfl rfl rfl
      refine wpList_nil ?_
      refine hK1104 _ _ ?_
      refine wp_seq_k fun K1106 hK1106 => ?_
      have hj4 : ∀ (x1113 : Int), law09_MergeParted_j4 y128 l1052 x1053 x1113 = some o1097 → ∀ (ac : Act) (w : World), FR 102 [] ac [(1, .slice A1 n1 c1), (5, .slice B130 m131 d132), (6, .int .i64 (IntKind.i64.wrap (1 + ((a1.length : Int).tmod 16)))), (7, .slice (some ⟨g136, 0, none⟩) ((IntKind.i64.wrap (1 + ((a1.length : Int).tmod 16))).toNat) ((IntKind.i64.wrap (1 + ((a1.length : Int).tmod 16))).toNat)), (8, .int .i64 x1053), (9, .int .i64 x1113)] → SH r (own k30 30 B130 m131 d132 y128 :: own2 (kH (List S30)) k30 30 (fun x => x) 25 (some ⟨g136, 0, none⟩) ((IntKind.i64.wrap (1 + ((a1.length : Int).tmod 16))).toNat) ((IntKind.i64.wrap (1 + ((a1.length : Int).tmod 16))).toNat) l1052 :: zone Z112 wz113 :: L) w → K1106 ac w := by
        intro x1113 hF ac w hA hS
        unfold law09_MergeParted_j4 at hF
        refine hK1106 _ _ ?_
        refine wp_draw [0, 0, 0, 0, 12, 28, 0, 0, 192, 448, 960, 2044, 4095, 8191] [10, 11, 13] rfl hA hS (by kernel_rfl) (by kernel_rfl) (by kernel_rfl) (by kernel_rfl) fun w hS => ?_
        obtain ⟨x1114, h1115, hF⟩ := bnd hF
        have hS_1116 := hS
        replace hS := hS.pk 1
        obtain ⟨ps1117, A1118, n1119, c1120, h1121, h1122, hS⟩ := own2_out hS h1115
        obtain ⟨cs, hV, hc1123⟩ := el (hS.rd 0 rfl) h1122
        obtain rfl := hV
        obtain ⟨x1124, h1125, hF⟩ := bnd hF
        obtain ⟨cs, hV, hc1126⟩ := el (hS.rd 3 rfl) h1125
        obtain rfl := hV
        refine ⟨[(0, .slice (some ⟨g136, 0, none⟩) ((IntKind.i64.wrap (1 + ((a1.length : Int).tmod 16))).toNat) ((IntKind.i64.wrap (1 + ((a1.length : Int).tmod 16))).toNat)), (1, .int .i64 x1113), (2, .slice (some ⟨g136, 0, none⟩) ((IntKind.i64.wrap (1 + ((a1.length : Int).tmod 16))).toNat) ((IntKind.i64.wrap (1 + ((a1.length : Int).tmod 16))).toNat)), (3, .int .i64 x1113), (4, .pointer (some (ea (some ⟨g136, 0, none⟩) (x1113.toNat * 1)))), (5, .slice A1118 n1119 c1120), (6, .slice B130 m131 d132), (7, .int .i64 x1053), (8, .pointer (some (ea B130 (x1053.toNat * 5)))), (9, .agg #[.int .u64 x1124.f0, .int .i64 x1124.f1, .int .i64 x1124.f2, str x1124.f3, .float .f64 x1124.f4])], ?_⟩
        refine dEff [0, 1, 2, 3, 4, 5, 6, 7, 8, 9] [10] (by kernel_rfl) ⟨pu rfl rfl [(7, .slice (some ⟨g136, 0, none⟩) ((IntKind.i64.wrap (1 + ((a1.length : Int).tmod 16))).toNat) ((IntKind.i64.wrap (1 + ((a1.length : Int).tmod 16))).toNat))] (fun ac hA => y_move hA rfl rfl) rfl rfl, pu rfl rfl [(9, .int .i64 x1113)] (fun ac hA => y_move hA rfl rfl) rfl rfl, pu rfl rfl [(7, .slice (some ⟨g136, 0, none⟩) ((IntKind.i64.wrap (1 + ((a1.length : Int).tmod 16))).toNat) ((IntKind.i64.wrap (1 + ((a1.length : Int).tmod 16))).toNat))] (fun ac hA => y_move hA rfl rfl) rfl rfl, pu rfl rfl [(9, .int .i64 x1113)] (fun ac hA => y_move hA rfl rfl) rfl rfl, pu rfl rfl [(51, .slice (some ⟨g136, 0, none⟩) ((IntKind.i64.wrap (1 + ((a1.length : Int).tmod 16))).toNat) ((IntKind.i64.wrap (1 + ((a1.length : Int).tmod 16))).toNat)), (52, .int .i64 x1113)] (fun ac hA => y_ia Try.underlying22 sz25 (hS_1116.rd2 1 rfl) h1115 hA rfl rfl rfl) rfl rfl, pu rfl rfl [(53, .pointer (some (ea (some ⟨g136, 0, none⟩) (x1113.toNat * 1))))] (fun ac hA => y_ld Try.underlying25 (hc1123 0 _ rfl) hA rfl rfl rfl) rfl rfl, pu rfl rfl [(5, .slice B130 m131 d132)] (fun ac hA => y_move hA rfl rfl) rfl rfl, pu rfl rfl [(8, .int .i64 x1053)] (fun ac hA => y_move hA rfl rfl) rfl rfl, pu rfl rfl [(55, .slice B130 m131 d132), (56, .int .i64 x1053)] (fun ac hA => y_ia Try.underlying25 sz30 (hS.rd 3 rfl) h1125 hA rfl rfl rfl) rfl rfl, pu rfl rfl [(57, .pointer (some (ea B130 (x1053.toNat * 5))))] (fun ac hA => y_lda (cs := [.int .u64 x1124.f0, .int .i64 x1124.f1, .int .i64 x1124.f2, str x1124.f3, .float .f64 x1124.f4]) Try.underlying30 sz30 (fun j u h => by rw [ea_add]; exact hc1126 _ _ h) hA rfl rfl rfl) rfl rfl, trivial⟩ (by kernel_rfl) (by kernel_rfl) ⟨ef rfl [(58, .agg #[.int .u64 x1124.f0, .int .i64 x1124.f1, .int .i64 x1124.f2, str x1124.f3, .float .f64 x1124.f4])] (fun ac hA K hK => ?_) rfl rfl, trivial⟩
        refine z_bsl (d := k30) (e := 30) (ps := #[(0, .agg #[.int .u64 x1124.f0, .int .i64 x1124.f1, .int .i64 x1124.f2, str x1124.f3, .float .f64 x1124.f4])]) (cells := [.int .u64 x1124.f0, .int .i64 x1124.f1, .int .i64 x1124.f2, str x1124.f3, .float .f64 x1124.f4]) (xs := [x1124]) (fun w => by kernel_rfl) rfl ⟨[.int .u64 x1124.f0, .int .i64 x1124.f1, .int .i64 x1124.f2, str x1124.f3, .float .f64 x1124.f4], _, rfl, rfl, rfl⟩ hA hS (fun g1127 w hS => ?_) rfl rfl rfl
        obtain ⟨cs, hV, hc1128⟩ := el (hS.rd 1 rfl) h1122
        obtain rfl := hV
        refine hK _ [] _ rfl ?_
        refine dEff [0, 1, 2, 3, 4, 5] [11] (by kernel_rfl) ⟨pu rfl rfl [(7, .slice (some ⟨g136, 0, none⟩) ((IntKind.i64.wrap (1 + ((a1.length : Int).tmod 16))).toNat) ((IntKind.i64.wrap (1 + ((a1.length : Int).tmod 16))).toNat))] (fun ac hA => y_move hA rfl rfl) rfl rfl, pu rfl rfl [(9, .int .i64 x1113)] (fun ac hA => y_move hA rfl rfl) rfl rfl, pu rfl rfl [(7, .slice (some ⟨g136, 0, none⟩) ((IntKind.i64.wrap (1 + ((a1.length : Int).tmod 16))).toNat) ((IntKind.i64.wrap (1 + ((a1.length : Int).tmod 16))).toNat))] (fun ac hA => y_move hA rfl rfl) rfl rfl, pu rfl rfl [(9, .int .i64 x1113)] (fun ac hA => y_move hA rfl rfl) rfl rfl, pu rfl rfl [(51, .slice (some ⟨g136, 0, none⟩) ((IntKind.i64.wrap (1 + ((a1.length : Int).tmod 16))).toNat) ((IntKind.i64.wrap (1 + ((a1.length : Int).tmod 16))).toNat)), (52, .int .i64 x1113)] (fun ac hA => y_ia Try.underlying22 sz25 (hS.rdp 1 rfl h1121) h1115 hA rfl rfl rfl) rfl rfl, pu rfl rfl [(53, .pointer (some (ea (some ⟨g136, 0, none⟩) (x1113.toNat * 1))))] (fun ac hA => y_ld Try.underlying25 (hc1128 0 _ rfl) hA rfl rfl rfl) rfl rfl, trivial⟩ (by kernel_rfl) (by kernel_rfl) ⟨ef rfl [(54, .slice A1118 n1119 c1120), (59, .slice (some ⟨g1127, 0, none⟩) 1 1)] (fun ac hA K hK => ?_) rfl rfl, trivial⟩
        obtain ⟨h1129, hF⟩ := chk_some hF
        have hr := hS.rd 0 rfl
        refine z_app 2 inf30 Try.underlying25 hA hS hr.1 hr.2.1 h1129 rfl (fun A1130 n1131 c1132 w hS => ?_) rfl rfl rfl rfl rfl rfl
        refine hK _ [(12, .pointer (some (ea (some ⟨g136, 0, none⟩) (x1113.toNat * 1))))] _ rfl ?_
        refine dEff [0, 1, 12] [13] (by kernel_rfl) ⟨pu rfl rfl [(7, .slice (some ⟨g136, 0, none⟩) ((IntKind.i64.wrap (1 + ((a1.length : Int).tmod 16))).toNat) ((IntKind.i64.wrap (1 + ((a1.length : Int).tmod 16))).toNat))] (fun ac hA => y_move hA rfl rfl) rfl rfl, pu rfl rfl [(9, .int .i64 x1113)] (fun ac hA => y_move hA rfl rfl) rfl rfl, pu rfl rfl [(49, .slice (some ⟨g136, 0, none⟩) ((IntKind.i64.wrap (1 + ((a1.length : Int).tmod 16))).toNat) ((IntKind.i64.wrap (1 + ((a1.length : Int).tmod 16))).toNat)), (50, .int .i64 x1113)] (fun ac hA => y_ia Try.underlying22 sz25 (hS.rdp 2 rfl h1121) h1115 hA rfl rfl rfl) rfl rfl, trivial⟩ (by kernel_rfl) (by kernel_rfl) ⟨ef rfl [(60, .slice A1130 n1131 c1132), (61, .pointer (some (ea (some ⟨g136, 0, none⟩) (x1113.toNat * 1))))] (fun ac hA K hK => ?_) rfl rfl, trivial⟩
        refine z_sto (z' := (x1114 ++ [x1124], A1130, n1131, c1132)) (off := 0) (vs := [.slice A1130 n1131 c1132]) 2 sz25 hA hS rfl (at_some h1122).2.2 (fun c h => by cases h; rfl) (fun  w hS => ?_) rfl rfl rfl rfl rfl rfl
        replace hS := hS.pk 3
        replace hS := hS.pk 2
        replace hS := hS.pk 2
        replace hS := own2_in (g := (fun x => x)) (x' := x1114 ++ [x1124]) h1121 h1122 hS
        refine hK _ [] _ rfl ?_
        refine dEnd [] (by kernel_rfl) trivial ⟨by kernel_rfl, by kernel_rfl⟩ [(1, .slice A1 n1 c1), (5, .slice B130 m131 d132), (6, .int .i64 (IntKind.i64.wrap (1 + ((a1.length : Int).tmod 16)))), (7, .slice (some ⟨g136, 0, none⟩) ((IntKind.i64.wrap (1 + ((a1.length : Int).tmod 16))).toNat) ((IntKind.i64.wrap (1 + ((a1.length : Int).tmod 16))).toNat)), (8, .int .i64 x1053)] rfl (fun ac hA => ?_)
        refine hKx1103 _ _ ?_
        refine hK1102 _ _ ?_
        refine wp_reg ?_
        refine x_move hA (fun ac hA => ?_) rfl rfl rfl rfl rfl
        refine x_val hA (r_add rfl (hA.ev rfl) (hA.ev rfl)) (fun ac hA => ?_) rfl rfl rfl
        refine x_assign hA (fun ac hA => ?_) rfl rfl rfl rfl rfl
        refine wpList_nil ?_
        replace hS := hS.drop 1
        replace hS := hS.pk 2
        replace hS := hS.pk 1
        replace hS := hS.pk 2
        cases hF
        exact ⟨_, N1097_ _ rfl, hA.sub _ rfl, hS⟩
      refine wp_seq_k fun K1133 hK1133 => ?_
      refine wp_reg ?_
      refine x_move hA (fun ac hA => ?_) rfl rfl rfl rfl rfl
      refine x_move hA (fun ac hA => ?_) rfl rfl rfl rfl rfl
      refine x_len Try.underlying37 (hS.imm 2 h116 rfl).2.1 hA (fun ac hA => ?_) rfl rfl rfl rfl rfl
      refine x_val hA (r_ltI rfl (hA.ev rfl) (hA.ev rfl)) (fun ac hA => ?_) rfl rfl rfl
      refine wpList_nil ?_
      refine hK1133 _ _ ?_
      refine c_if hA rfl (fun hb1134 => ?_) fun hb1134 => ?_
      · replace hF := ift hb1134 hF
        refine wp_reg ?_
        refine x_move hA (fun ac hA => ?_) rfl rfl rfl rfl rfl
        refine x_move hA (fun ac hA => ?_) rfl rfl rfl rfl rfl
        obtain ⟨x1135, h1136, hF⟩ := bnd hF
        refine x_ia Try.underlying37 sz5 (hS.imm 2 h116 rfl) h1136 hA (fun ac hA => ?_) rfl rfl rfl rfl rfl rfl
        obtain ⟨cs, hV, hc1137⟩ := el (hS.imm 2 h116 rfl) h1136
        obtain rfl := hV
        refine x_ld Try.underlying5 (hc1137 0 _ rfl) hA (fun ac hA => ?_) rfl rfl rfl rfl rfl rfl
        refine x_val hA (r_convI Try.underlying5 Try.underlying3 rfl (hA.ev rfl)) (fun ac hA => ?_) rfl rfl rfl
        refine x_move hA (fun ac hA => ?_) rfl rfl rfl rfl rfl
        obtain ⟨h1138, hF⟩ := chk_some hF
        refine x_val hA (r_rem rfl (hA.ev rfl) (hA.ev rfl) h1138) (fun ac hA => ?_) rfl rfl rfl
        refine x_assign hA (fun ac hA => ?_) rfl rfl rfl rfl rfl
        refine wpList_nil ?_
        exact hj4 ((IntKind.i64.wrap x1135).tmod (IntKind.i64.wrap (1 + ((a1.length : Int).tmod 16)))) hF ac w (hA.sub _ rfl) hS
      replace hF := iff' hb1134 hF
      refine wp_skip ?_
      exact hj4 (x1053.tmod (IntKind.i64.wrap (1 + ((a1.length : Int).tmod 16)))) hF ac w (hA.sub _ rfl) hS
    replace hF := iff' hb1101 hF
    refine wp_exit ?_
    cases hF
    exact hx1097_0 l1052 (T1097_ _ rfl) ac w (hA.sub _ rfl) hS
  refine wp_reg ?_
  obtain ⟨y1139, h1140, hF⟩ := bnd hF
  refine x_call en10 hA (F_law09_awake (L := L) h1140 hS) (fun v ac w hR hA => ?_) rfl rfl rfl rfl rfl
  obtain ⟨Z1141, wz1142, rfl, h1143, hS⟩ := hR
  have h1144 := Imm.sub ha0 h1143
  have h1145 := Imm.sub ha1 h1143
  refine x_val hA (r_not rfl (hA.ev rfl)) (fun ac hA => ?_) rfl rfl rfl
  refine x_move hA (fun ac hA => ?_) rfl rfl rfl rfl rfl
  refine bcase (b := !y1139) (fun hb1146 => ?_) fun hb1146 => ?_
  · replace hF := ift hb1146 hF
    refine x_off hb1146 hA (fun ac hA => ?_) rfl rfl rfl rfl rfl
    refine x_off hb1146 hA (fun ac hA => ?_) rfl rfl rfl rfl rfl
    refine x_off hb1146 hA (fun ac hA => ?_) rfl rfl rfl rfl rfl
    refine x_pickt hb1146 hA (fun ac hA => ?_) rfl rfl rfl rfl rfl rfl
    refine wpList_nil ?_
    exact hj1 true hF Z1141 wz1142 h1143 h1144 h1145 ac w (hA.sub _ rfl) hS
  replace hF := iff' hb1146 hF
  refine x_on hb1146 hA ?_ rfl rfl rfl
  refine x_move hA (fun ac hA => ?_) rfl rfl rfl rfl rfl
  refine x_on hb1146 hA ?_ rfl rfl rfl
  refine x_len Try.underlying25 (hS.imm 0 h1144 rfl).2.1 hA (fun ac hA => ?_) rfl rfl rfl rfl rfl
  refine x_on hb1146 hA ?_ rfl rfl rfl
  refine x_val hA (r_gtI rfl (hA.ev rfl) (hA.ev rfl)) (fun ac hA => ?_) rfl rfl rfl
  refine x_pickf hb1146 hA (fun ac hA => ?_) rfl rfl rfl rfl rfl rfl
  refine wpList_nil ?_
  exact hj1 (decide (100 < (a0.length : Int))) hF Z1141 wz1142 h1143 h1144 h1145 ac w (hA.sub _ rfl) hS
end Go.Proofs.Ytpanacifejpjhaa.M
