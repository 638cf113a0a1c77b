/- The calls come to the plain functions. -/
import Derived.Test.YtgjhiojkkjaloaaMh
import Derived.Test.YtgjhiojkkjaloaaDk
namespace Go.Proofs.Ytgjhiojkkjaloaa.M
open Go Go.RowKit Go.Proofs.Ytgjhiojkkjaloaa.E
set_option linter.unusedVariables false
set_option linter.unusedSimpArgs false

set_option maxHeartbeats 4000000 in
theorem F_law05_spoil {r : World} {L : List HP} {w : World} (a0 : (Option S68)) (a1 : S53) (a2 : (List UInt8)) (a3 : Int) (p0 : Option Addr) (g1 : Nat) {y : (Bool × (Option S68) × S53)} (hF : law05_spoil a0 a1 a2 a3 = some y) (hS : SH r (optP (obj68) p0 a0 :: obj53 g1 a1 :: L) w) :
    Ret Try.prog 29 #[.pointer p0, .pointer (some ⟨g1, 0, none⟩), str a2, .int .i64 a3] w fun v w' => v = .bool y.1 ∧ SH r (optP (obj68) p0 y.2.1 :: obj53 g1 y.2.2 :: L) w' := by
  refine enter Try.func29 rfl Try.ntmps29 [(0, .pointer p0), (1, .pointer (some ⟨g1, 0, none⟩)), (2, str a2), (3, .int .i64 a3)] rfl (by simp) ?_
  intro ac hA Qf hQ hQn
  unfold law05_spoil at hF
  cases a0 with
  | none =>
    have hU := SH.unoptN hS
    clear hS
    obtain ⟨rfl, hS⟩ := hU
    obtain ⟨A103, n104, c105, hS⟩ := obj53_open hS
    refine wp_seq_k fun K106 hK106 => ?_
    refine wp_reg ?_
    refine x_assign hA (fun ac hA => ?_) rfl rfl rfl rfl rfl
    refine wpList_nil ?_
    refine hK106 _ _ ?_
    refine wp_seq_k fun K107 hK107 => ?_
    refine wp_reg ?_
    refine x_assign hA (fun ac hA => ?_) rfl rfl rfl rfl rfl
    refine wpList_nil ?_
    refine hK107 _ _ ?_
    refine wp_seq_k fun K108 hK108 => ?_
    refine wp_seq_k fun K321 hK321 => ?_
    refine wp_reg ?_
    refine x_assign hA (fun ac hA => ?_) rfl rfl rfl rfl rfl
    refine wpList_nil ?_
    refine hK321 _ _ ?_
    refine wp_block_k fun Kx322 hKx322 => ?_
    have hb1 : ∀ (x427 : Int), law05_spoil_b1 a1 a2 a3 x427 = some y → ∀ (ac : Act) (w : World), FR 117 [] ac [(0, .pointer none), (1, .pointer (some ⟨g1, 0, none⟩)), (2, str a2), (3, .int .i64 a3), (9, .int .i64 x427)] → SH r (blk g1 53 [.slice A103 n104 c105, .int .i64 a1.f1, .int .i64 a1.f2, .bool a1.f3, .int .i64 a1.f4] :: own k62 62 A103 n104 c105 a1.f0 :: L) w → Kx322 ac w := by
      intro x427 hF ac w hA hS
      unfold law05_spoil_b1 at hF
      refine hKx322 _ _ ?_
      refine hK108 _ _ ?_
      refine wp_seq_k fun K428 hK428 => ?_
      refine wp_reg ?_
      refine x_move hA (fun ac hA => ?_) rfl rfl rfl rfl rfl
      refine x_move hA (fun ac hA => ?_) rfl rfl rfl rfl rfl
      refine x_move hA (fun ac hA => ?_) rfl rfl rfl rfl rfl
      replace hS := SH.optN (obj68) hS
      obtain ⟨y429, h430, hF⟩ := bnd hF
      refine x_call en34 hA (F_files_Store_Spoil (L := blk g1 53 [.slice A103 n104 c105, .int .i64 a1.f1, .int .i64 a1.f2, .bool a1.f3, .int .i64 a1.f4] :: own k62 62 A103 n104 c105 a1.f0 :: L) none a2 a3 none h430 hS) (fun v ac w hR hA => ?_) rfl rfl rfl rfl rfl
      obtain ⟨rfl, hS⟩ := hR
      refine x_assign hA (fun ac hA => ?_) rfl rfl rfl rfl rfl
      refine wpList_nil ?_
      refine hK428 _ _ ?_
      refine wp_seq_k fun K431 hK431 => ?_
      refine wp_seq_k fun K432 hK432 => ?_
      refine wp_reg ?_
      refine x_move hA (fun ac hA => ?_) rfl rfl rfl rfl rfl
      refine x_val hA (r_ltI rfl (hA.ev rfl) (hA.ev rfl)) (fun ac hA => ?_) rfl rfl rfl
      refine wpList_nil ?_
      refine hK432 _ _ ?_
      refine c_if hA rfl (fun hb433 => ?_) fun hb433 => ?_
      · replace hF := ift hb433 hF
        refine wp_seq_k fun K434 hK434 => ?_
        refine wp_reg ?_
        refine x_move hA (fun ac hA => ?_) rfl rfl rfl rfl rfl
        refine x_val hA (r_eqI rfl (hA.ev rfl) (hA.ev rfl)) (fun ac hA => ?_) rfl rfl rfl
        refine x_assign hA (fun ac hA => ?_) rfl rfl rfl rfl rfl
        refine wpList_nil ?_
        refine hK434 _ _ ?_
        refine wp_ret ?_
        replace hS := hS.pk 2
        replace hS := hS.pk 2
        replace hS := obj53_mk (x := a1) hS
        replace hS := SH.optN (obj68) hS
        replace hS := hS.drop 2
        replace hS := hS.pk 1
        replace hS := hS.pk 1
        cases hF
        refine hQ _ _ ?_
        refine lv Try.results29 hA rfl ?_
        exact ⟨rfl, hS⟩
      replace hF := iff' hb433 hF
      refine wp_skip ?_
      refine hK431 _ _ ?_
      refine wp_seq_k fun K435 hK435 => ?_
      refine wp_reg ?_
      refine x_move hA (fun ac hA => ?_) rfl rfl rfl rfl rfl
      refine x_val hA (r_nilCheck rfl (hA.ev rfl)) (fun ac hA => ?_) rfl rfl rfl
      refine x_fab fa53_0 hA (fun ac hA => ?_) rfl rfl rfl rfl rfl
      refine x_ld Try.underlying51 (hS.cell 1 rfl 0 _ rfl) hA (fun ac hA => ?_) rfl rfl rfl rfl rfl rfl
      refine x_move hA (fun ac hA => ?_) rfl rfl rfl rfl rfl
      obtain ⟨x436, h437, hF⟩ := bnd hF
      refine x_ia Try.underlying51 sz62 (hS.rd 2 rfl) h437 hA (fun ac hA => ?_) rfl rfl rfl rfl rfl rfl
      refine x_fae (m := x427.toNat * 3) fa62_1 hA (fun ac hA => ?_) rfl rfl rfl rfl rfl
      obtain ⟨cs, hV, hc438⟩ := el (hS.rd 2 rfl) h437
      obtain rfl := hV
      refine x_ld Try.underlying9 (hc438 1 _ rfl) hA (fun ac hA => ?_) rfl rfl rfl rfl rfl rfl
      refine x_val hA (r_lenS Try.underlying9 rfl (hA.ev rfl)) (fun ac hA => ?_) rfl rfl rfl
      refine x_assign hA (fun ac hA => ?_) rfl rfl rfl rfl rfl
      refine wpList_nil ?_
      refine hK435 _ _ ?_
      refine wp_seq_k fun K439 hK439 => ?_
      refine wp_draw [0, 1, 3, 7, 0, 31, 63, 127, 0, 256, 768, 1792, 0, 7936, 16128, 32512, 65535, 131071, 262143] [17] rfl hA hS (by kernel_rfl) (by kernel_rfl) (by kernel_rfl) (by kernel_rfl) fun w hS => ?_
      obtain ⟨cs, hV, hc440⟩ := el (hS.rd 2 rfl) h437
      obtain rfl := hV
      obtain ⟨cs, hV, hc441⟩ := el (hS.rd 2 rfl) h437
      obtain rfl := hV
      obtain ⟨h442, hF⟩ := chk_some hF
      refine ⟨[(0, .pointer (some ⟨g1, 0, none⟩)), (1, .pointer (some ⟨g1, 0, none⟩)), (2, .pointer (some ⟨g1, 0, none⟩)), (3, .slice A103 n104 c105), (4, .int .i64 x427), (5, .pointer (some (ea A103 (x427.toNat * 3)))), (6, .pointer (some (ea A103 (x427.toNat * 3 + 1)))), (7, str x436.f1), (8, .pointer (some ⟨g1, 0, none⟩)), (9, .pointer (some ⟨g1, 0, none⟩)), (10, .pointer (some ⟨g1, 0, none⟩)), (11, .slice A103 n104 c105), (12, .int .i64 x427), (13, .pointer (some (ea A103 (x427.toNat * 3)))), (14, .pointer (some (ea A103 (x427.toNat * 3 + 2)))), (15, str x436.f2), (16, str (x436.f1 ++ x436.f2))], ?_⟩
      refine dEff [0, 1, 2, 3, 4, 5, 6, 7, 8, 9, 10, 11, 12, 13, 14, 15, 16] [17] (by kernel_rfl) ⟨pu rfl rfl [(1, .pointer (some ⟨g1, 0, none⟩))] (fun ac hA => y_move hA rfl rfl) rfl rfl, pu rfl rfl [(51, .pointer (some ⟨g1, 0, none⟩))] (fun ac hA => r_nilCheck rfl (hA.ev rfl)) rfl rfl, pu rfl rfl [(52, .pointer (some ⟨g1, 0, none⟩))] (fun ac hA => y_fab fa53_0 hA rfl rfl) rfl rfl, pu rfl rfl [(53, .pointer (some ⟨g1, 0, none⟩))] (fun ac hA => y_ld Try.underlying51 (hS.cell 1 rfl 0 _ rfl) hA rfl rfl rfl) rfl rfl, pu rfl rfl [(9, .int .i64 x427)] (fun ac hA => y_move hA rfl rfl) rfl rfl, pu rfl rfl [(54, .slice A103 n104 c105), (55, .int .i64 x427)] (fun ac hA => y_ia Try.underlying51 sz62 (hS.rd 2 rfl) h437 hA rfl rfl rfl) rfl rfl, pu rfl rfl [(56, .pointer (some (ea A103 (x427.toNat * 3))))] (fun ac hA => y_fae (m := x427.toNat * 3) fa62_1 hA rfl rfl) rfl rfl, pu rfl rfl [(57, .pointer (some (ea A103 (x427.toNat * 3 + 1))))] (fun ac hA => y_ld Try.underlying9 (hc440 1 _ rfl) hA rfl rfl rfl) rfl rfl, pu rfl rfl [(1, .pointer (some ⟨g1, 0, none⟩))] (fun ac hA => y_move hA rfl rfl) rfl rfl, pu rfl rfl [(59, .pointer (some ⟨g1, 0, none⟩))] (fun ac hA => r_nilCheck rfl (hA.ev rfl)) rfl rfl, pu rfl rfl [(60, .pointer (some ⟨g1, 0, none⟩))] (fun ac hA => y_fab fa53_0 hA rfl rfl) rfl rfl, pu rfl rfl [(61, .pointer (some ⟨g1, 0, none⟩))] (fun ac hA => y_ld Try.underlying51 (hS.cell 1 rfl 0 _ rfl) hA rfl rfl rfl) rfl rfl, pu rfl rfl [(9, .int .i64 x427)] (fun ac hA => y_move hA rfl rfl) rfl rfl, pu rfl rfl [(62, .slice A103 n104 c105), (63, .int .i64 x427)] (fun ac hA => y_ia Try.underlying51 sz62 (hS.rd 2 rfl) h437 hA rfl rfl rfl) rfl rfl, pu rfl rfl [(64, .pointer (some (ea A103 (x427.toNat * 3))))] (fun ac hA => y_fae (m := x427.toNat * 3) fa62_2 hA rfl rfl) rfl rfl, pu rfl rfl [(65, .pointer (some (ea A103 (x427.toNat * 3 + 2))))] (fun ac hA => y_ld Try.underlying9 (hc441 2 _ rfl) hA rfl rfl rfl) rfl rfl, pu rfl rfl [(58, str x436.f1), (66, str x436.f2)] (fun ac hA => r_catS rfl (hA.ev rfl) (hA.ev rfl) h442) rfl rfl, trivial⟩ (by kernel_rfl) (by kernel_rfl) ⟨ef rfl [(67, str (x436.f1 ++ x436.f2))] (fun ac hA K hK => ?_) rfl rfl, trivial⟩
      obtain ⟨h446, hF⟩ := chk_some hF
      refine z_s2w (e := 5) Try.underlying22 Try.underlying5 Try.underlying9 hA hS h446 (fun A443 n444 c445 w hS => ?_) rfl rfl
      refine hK _ [(18, .slice A443 n444 c445)] _ rfl ?_
      refine dEnd [18] (by kernel_rfl) ⟨pu rfl rfl [(68, .slice A443 n444 c445)] (fun ac hA => y_assign hA rfl rfl) rfl rfl, trivial⟩ ⟨by kernel_rfl, by kernel_rfl⟩ [(0, .pointer none), (1, .pointer (some ⟨g1, 0, none⟩)), (3, .int .i64 a3), (9, .int .i64 x427), (11, .int .i64 y429.1), (12, .int .i64 (x436.f1.length : Int)), (13, .slice A443 n444 c445)] rfl (fun ac hA => ?_)
      refine hK439 _ _ ?_
      refine wp_seq_k fun K447 hK447 => ?_
      refine wp_seq_k fun K448 hK448 => ?_
      have hj1 : ∀ (b452 : Bool), law05_spoil_j1 a1 a3 x427 y429 x436 b452 = some y → ∀ (ac : Act) (w : World), FR 117 [] ac [(0, .pointer none), (1, .pointer (some ⟨g1, 0, none⟩)), (3, .int .i64 a3), (9, .int .i64 x427), (11, .int .i64 y429.1), (12, .int .i64 (x436.f1.length : Int)), (13, .slice A443 n444 c445), (77, .bool b452)] → SH r (blk g1 53 [.slice A103 n104 c105, .int .i64 a1.f1, .int .i64 a1.f2, .bool a1.f3, .int .i64 a1.f4] :: own k62 62 A103 n104 c105 a1.f0 :: ownw 5 A443 n444 c445 (stb (x436.f1 ++ x436.f2)) :: L) w → K448 ac w := by
        intro b452 hF ac w hA hS
        unfold law05_spoil_j1 at hF
        refine hK448 _ _ ?_
        refine c_if hA rfl (fun hb453 => ?_) fun hb453 => ?_
        · replace hF := ift hb453 hF
          refine wp_seq_k fun K454 hK454 => ?_
          refine wp_reg ?_
          refine x_move hA (fun ac hA => ?_) rfl rfl rfl rfl rfl
          refine x_val hA (r_eqI rfl (hA.ev rfl) (hA.ev rfl)) (fun ac hA => ?_) rfl rfl rfl
          refine x_assign hA (fun ac hA => ?_) rfl rfl rfl rfl rfl
          refine wpList_nil ?_
          refine hK454 _ _ ?_
          refine wp_ret ?_
          replace hS := hS.pk 1
          replace hS := hS.pk 1
          replace hS := obj53_mk (x := a1) hS
          replace hS := SH.optN (obj68) hS
          replace hS := hS.drop 2
          replace hS := hS.pk 1
          replace hS := hS.pk 1
          cases hF
          refine hQ _ _ ?_
          refine lv Try.results29 hA rfl ?_
          exact ⟨rfl, hS⟩
        replace hF := iff' hb453 hF
        refine wp_skip ?_
        refine hK447 _ _ ?_
        refine wp_seq_k fun K455 hK455 => ?_
        refine wp_draw [0, 0, 2, 0, 0, 16, 56, 120, 0, 256, 768, 2040, 4095, 8191] [13] rfl hA hS (by kernel_rfl) (by kernel_rfl) (by kernel_rfl) (by kernel_rfl) fun w hS => ?_
        obtain ⟨x456, h457, hF⟩ := ltt_ hF
        obtain ⟨x458, h459, hF⟩ := bnd hF
        obtain ⟨cs, hV, hc460⟩ := el (hS.rdw 2 rfl) h459
        obtain rfl := hV
        obtain ⟨h461, hF⟩ := chk_some hF
        obtain ⟨x462, h463, hF⟩ := ltt_ hF
        obtain ⟨x464, h465, hF⟩ := ltt_ hF
        refine ⟨[(0, .slice A443 n444 c445), (1, .int .i64 a3), (2, .int .i64 x456), (3, .slice A443 n444 c445), (4, .int .i64 a3), (5, .int .i64 x456), (6, .pointer (some (ea A443 (x456.toNat * 1)))), (7, .int .u8 x458), (8, .int .i64 a3), (9, .int .i64 (a3.tmod 8)), (10, .int .u8 x462), (11, .int .u8 x464), (12, .pointer (some (ea A443 (x456.toNat * 1))))], ?_⟩
        refine dEff [0, 1, 2, 3, 4, 5, 6, 7, 8, 9, 10, 11, 12] [13] (by kernel_rfl) ⟨pu rfl rfl [(13, .slice A443 n444 c445)] (fun ac hA => y_move hA rfl rfl) rfl rfl, pu rfl rfl [(3, .int .i64 a3)] (fun ac hA => y_move hA rfl rfl) rfl rfl, pu rfl rfl [(81, .int .i64 a3)] (fun ac hA => (rv_i h457 (r_quo rfl (hA.ev rfl) (hA.ev rfl) (by decide)) : RunV _ _ _ _ (.int .i64 x456))) rfl rfl, pu rfl rfl [(13, .slice A443 n444 c445)] (fun ac hA => y_move hA rfl rfl) rfl rfl, pu rfl rfl [(3, .int .i64 a3)] (fun ac hA => y_move hA rfl rfl) rfl rfl, pu rfl rfl [(84, .int .i64 a3)] (fun ac hA => (rv_i h457 (r_quo rfl (hA.ev rfl) (hA.ev rfl) (by decide)) : RunV _ _ _ _ (.int .i64 x456))) rfl rfl, pu rfl rfl [(83, .slice A443 n444 c445), (85, .int .i64 x456)] (fun ac hA => y_ia Try.underlying22 sz5 (hS.rdw 2 rfl) h459 hA rfl rfl rfl) rfl rfl, pu rfl rfl [(86, .pointer (some (ea A443 (x456.toNat * 1))))] (fun ac hA => y_ld Try.underlying5 (hc460 0 _ rfl) hA rfl rfl rfl) rfl rfl, pu rfl rfl [(3, .int .i64 a3)] (fun ac hA => y_move hA rfl rfl) rfl rfl, pu rfl rfl [(88, .int .i64 a3)] (fun ac hA => r_rem rfl (hA.ev rfl) (hA.ev rfl) (by decide)) rfl rfl, pu rfl rfl [(89, .int .i64 (a3.tmod 8))] (fun ac hA => (rv_i h463 (r_shl rfl (hA.ev rfl) (hA.ev rfl) h461) : RunV _ _ _ _ (.int .u8 x462))) rfl rfl, pu rfl rfl [(87, .int .u8 x458), (90, .int .u8 x462)] (fun ac hA => (rv_i h465 (r_xor rfl (hA.ev rfl) (hA.ev rfl)) : RunV _ _ _ _ (.int .u8 x464))) rfl rfl, pu rfl rfl [(80, .slice A443 n444 c445), (82, .int .i64 x456)] (fun ac hA => y_ia Try.underlying22 sz5 (hS.rdw 2 rfl) h459 hA rfl rfl rfl) rfl rfl, trivial⟩ (by kernel_rfl) (by kernel_rfl) ⟨ef rfl [(91, .int .u8 x464), (92, .pointer (some (ea A443 (x456.toNat * 1))))] (fun ac hA K hK => ?_) rfl rfl, trivial⟩
        refine z_stw 2 sz5 hA hS rfl h459 (fun  w hS => ?_) rfl rfl rfl
        refine hK _ [] _ rfl ?_
        refine dEnd [] (by kernel_rfl) trivial ⟨by kernel_rfl, by kernel_rfl⟩ [(0, .pointer none), (1, .pointer (some ⟨g1, 0, none⟩)), (9, .int .i64 x427), (11, .int .i64 y429.1), (12, .int .i64 (x436.f1.length : Int)), (13, .slice A443 n444 c445)] rfl (fun ac hA => ?_)
        refine hK455 _ _ ?_
        refine wp_seq_k fun K466 hK466 => ?_
        refine wp_draw [0, 1, 3, 7, 0, 0, 0, 96, 224, 511, 1023, 2047] [11] rfl hA hS (by kernel_rfl) (by kernel_rfl) (by kernel_rfl) (by kernel_rfl) fun w hS => ?_
        obtain ⟨l467, h468, hF⟩ := bnd hF
        obtain ⟨x469, h470, hF⟩ := bnd hF
        refine ⟨[(0, .pointer (some ⟨g1, 0, none⟩)), (1, .pointer (some ⟨g1, 0, none⟩)), (2, .pointer (some ⟨g1, 0, none⟩)), (3, .slice A103 n104 c105), (4, .int .i64 x427), (5, .slice A443 n444 c445), (6, .int .i64 (x436.f1.length : Int)), (7, .slice A443 ((x436.f1.length : Int).toNat) c445), (8, str (bts l467)), (9, .pointer (some (ea A103 (x427.toNat * 3)))), (10, .pointer (some (ea A103 (x427.toNat * 3 + 1))))], ?_⟩
        refine dEff [0, 1, 2, 3, 4, 5, 6, 7, 8, 9, 10] [11] (by kernel_rfl) ⟨pu rfl rfl [(1, .pointer (some ⟨g1, 0, none⟩))] (fun ac hA => y_move hA rfl rfl) rfl rfl, pu rfl rfl [(93, .pointer (some ⟨g1, 0, none⟩))] (fun ac hA => r_nilCheck rfl (hA.ev rfl)) rfl rfl, pu rfl rfl [(94, .pointer (some ⟨g1, 0, none⟩))] (fun ac hA => y_fab fa53_0 hA rfl rfl) rfl rfl, pu rfl rfl [(95, .pointer (some ⟨g1, 0, none⟩))] (fun ac hA => y_ld Try.underlying51 (hS.cell 1 rfl 0 _ rfl) hA rfl rfl rfl) rfl rfl, pu rfl rfl [(9, .int .i64 x427)] (fun ac hA => y_move hA rfl rfl) rfl rfl, pu rfl rfl [(13, .slice A443 n444 c445)] (fun ac hA => y_move hA rfl rfl) rfl rfl, pu rfl rfl [(12, .int .i64 (x436.f1.length : Int))] (fun ac hA => y_move hA rfl rfl) rfl rfl, pu rfl rfl [(98, .slice A443 n444 c445), (99, .int .i64 (x436.f1.length : Int))] (fun ac hA => r_slice_h Try.underlying22 sz5 rfl (hA.ev rfl) (hA.ev rfl) (cutq (hS.rdw 0 rfl) h468).2.2.2.2.1 (cutq (hS.rdw 0 rfl) h468).2.2.1) rfl rfl, pu rfl rfl [(100, .slice A443 ((x436.f1.length : Int).toNat) c445)] (fun ac hA => y_b2s Try.underlying22 Try.underlying5 Try.underlying9 (rq_h (hS.rdw 0 rfl) h468) hA rfl rfl) rfl rfl, pu rfl rfl [(96, .slice A103 n104 c105), (97, .int .i64 x427)] (fun ac hA => y_ia Try.underlying51 sz62 (hS.rd 2 rfl) h470 hA rfl rfl rfl) rfl rfl, pu rfl rfl [(102, .pointer (some (ea A103 (x427.toNat * 3))))] (fun ac hA => y_fae (m := x427.toNat * 3) fa62_1 hA rfl rfl) rfl rfl, trivial⟩ (by kernel_rfl) (by kernel_rfl) ⟨ef rfl [(101, str (bts l467)), (103, .pointer (some (ea A103 (x427.toNat * 3 + 1))))] (fun ac hA K hK => ?_) rfl rfl, trivial⟩
        refine z_sto (z' := (⟨x469.f0, bts l467, x469.f2⟩ : S62)) (off := 1) (vs := [str (bts l467)]) 2 sz9 hA hS rfl (at_some h470).2.2 (fun c h => by cases h; rfl) (fun  w hS => ?_) rfl rfl rfl rfl rfl rfl
        refine hK _ [] _ rfl ?_
        refine dEnd [] (by kernel_rfl) trivial ⟨by kernel_rfl, by kernel_rfl⟩ [(0, .pointer none), (1, .pointer (some ⟨g1, 0, none⟩)), (9, .int .i64 x427), (11, .int .i64 y429.1), (12, .int .i64 (x436.f1.length : Int)), (13, .slice A443 n444 c445)] rfl (fun ac hA => ?_)
        refine hK466 _ _ ?_
        refine wp_seq_k fun K471 hK471 => ?_
        refine wp_draw [0, 1, 3, 7, 0, 0, 0, 96, 224, 511, 1023, 2047] [11] rfl hA hS (by kernel_rfl) (by kernel_rfl) (by kernel_rfl) (by kernel_rfl) fun w hS => ?_
        obtain ⟨l472, h473, hF⟩ := bnd hF
        obtain ⟨x474, h475, hF⟩ := bnd hF
        refine ⟨[(0, .pointer (some ⟨g1, 0, none⟩)), (1, .pointer (some ⟨g1, 0, none⟩)), (2, .pointer (some ⟨g1, 0, none⟩)), (3, .slice A103 n104 c105), (4, .int .i64 x427), (5, .slice A443 n444 c445), (6, .int .i64 (x436.f1.length : Int)), (7, .slice (if c445 = (x436.f1.length : Int).toNat then A443 else A443.map (·.add ((x436.f1.length : Int).toNat * 1))) (n444 - (x436.f1.length : Int).toNat) (c445 - (x436.f1.length : Int).toNat)), (8, str (bts l472)), (9, .pointer (some (ea A103 (x427.toNat * 3)))), (10, .pointer (some (ea A103 (x427.toNat * 3 + 2))))], ?_⟩
        refine dEff [0, 1, 2, 3, 4, 5, 6, 7, 8, 9, 10] [11] (by kernel_rfl) ⟨pu rfl rfl [(1, .pointer (some ⟨g1, 0, none⟩))] (fun ac hA => y_move hA rfl rfl) rfl rfl, pu rfl rfl [(104, .pointer (some ⟨g1, 0, none⟩))] (fun ac hA => r_nilCheck rfl (hA.ev rfl)) rfl rfl, pu rfl rfl [(105, .pointer (some ⟨g1, 0, none⟩))] (fun ac hA => y_fab fa53_0 hA rfl rfl) rfl rfl, pu rfl rfl [(106, .pointer (some ⟨g1, 0, none⟩))] (fun ac hA => y_ld Try.underlying51 (hS.cell 2 rfl 0 _ rfl) hA rfl rfl rfl) rfl rfl, pu rfl rfl [(9, .int .i64 x427)] (fun ac hA => y_move hA rfl rfl) rfl rfl, pu rfl rfl [(13, .slice A443 n444 c445)] (fun ac hA => y_move hA rfl rfl) rfl rfl, pu rfl rfl [(12, .int .i64 (x436.f1.length : Int))] (fun ac hA => y_move hA rfl rfl) rfl rfl, pu rfl rfl [(109, .slice A443 n444 c445), (110, .int .i64 (x436.f1.length : Int))] (fun ac hA => r_slice_l Try.underlying22 sz5 rfl (hA.ev rfl) (hA.ev rfl) (cutq (hS.rdw 1 rfl) h473).1 (cutq (hS.rdw 1 rfl) h473).2.2.2.2.2) rfl rfl, pu rfl rfl [(111, .slice (if c445 = (x436.f1.length : Int).toNat then A443 else A443.map (·.add ((x436.f1.length : Int).toNat * 1))) (n444 - (x436.f1.length : Int).toNat) (c445 - (x436.f1.length : Int).toNat))] (fun ac hA => y_b2s Try.underlying22 Try.underlying5 Try.underlying9 (rq_l (hS.rdw 1 rfl) h473) hA rfl rfl) rfl rfl, pu rfl rfl [(107, .slice A103 n104 c105), (108, .int .i64 x427)] (fun ac hA => y_ia Try.underlying51 sz62 (hS.rd 0 rfl) h475 hA rfl rfl rfl) rfl rfl, pu rfl rfl [(113, .pointer (some (ea A103 (x427.toNat * 3))))] (fun ac hA => y_fae (m := x427.toNat * 3) fa62_2 hA rfl rfl) rfl rfl, trivial⟩ (by kernel_rfl) (by kernel_rfl) ⟨ef rfl [(112, str (bts l472)), (114, .pointer (some (ea A103 (x427.toNat * 3 + 2))))] (fun ac hA K hK => ?_) rfl rfl, trivial⟩
        refine z_sto (z' := (⟨x474.f0, x474.f1, bts l472⟩ : S62)) (off := 2) (vs := [str (bts l472)]) 0 sz9 hA hS rfl (at_some h475).2.2 (fun c h => by cases h; rfl) (fun  w hS => ?_) rfl rfl rfl rfl rfl rfl
        refine hK _ [] _ rfl ?_
        refine dEnd [] (by kernel_rfl) trivial ⟨by kernel_rfl, by kernel_rfl⟩ [(0, .pointer none), (1, .pointer (some ⟨g1, 0, none⟩)), (11, .int .i64 y429.1)] rfl (fun ac hA => ?_)
        refine hK471 _ _ ?_
        refine wp_seq_k fun K476 hK476 => ?_
        refine wp_reg ?_
        refine x_move hA (fun ac hA => ?_) rfl rfl rfl rfl rfl
        refine x_val hA (r_eqI rfl (hA.ev rfl) (hA.ev rfl)) (fun ac hA => ?_) rfl rfl rfl
        refine x_assign hA (fun ac hA => ?_) rfl rfl rfl rfl rfl
        refine wpList_nil ?_
        refine hK476 _ _ ?_
        refine wp_ret ?_
        replace hS := hS.pk 2
        replace hS := obj53_mk (x := (⟨(a1.f0.set x427.toNat (⟨x469.f0, bts l467, x469.f2⟩ : S62)).set x427.toNat (⟨x474.f0, x474.f1, bts l472⟩ : S62), a1.f1, a1.f2, a1.f3, a1.f4⟩ : S53)) hS
        replace hS := SH.optN (obj68) hS
        replace hS := hS.drop 2
        replace hS := hS.pk 1
        replace hS := hS.pk 1
        cases hF
        refine hQ _ _ ?_
        refine lv Try.results29 hA rfl ?_
        exact ⟨rfl, hS⟩
      refine wp_reg ?_
      refine x_move hA (fun ac hA => ?_) rfl rfl rfl rfl rfl
      refine x_val hA (r_ltI rfl (hA.ev rfl) (hA.ev rfl)) (fun ac hA => ?_) rfl rfl rfl
      refine x_move hA (fun ac hA => ?_) rfl rfl rfl rfl rfl
      refine bcase (b := decide (a3 < 0)) (fun hb477 => ?_) fun hb477 => ?_
      · replace hF := ift hb477 hF
        refine x_off hb477 hA (fun ac hA => ?_) rfl rfl rfl rfl rfl
        refine x_off hb477 hA (fun ac hA => ?_) rfl rfl rfl rfl rfl
        refine x_off hb477 hA (fun ac hA => ?_) rfl rfl rfl rfl rfl
        refine x_off hb477 hA (fun ac hA => ?_) rfl rfl rfl rfl rfl
        refine x_off hb477 hA (fun ac hA => ?_) rfl rfl rfl rfl rfl
        refine x_pickt hb477 hA (fun ac hA => ?_) rfl rfl rfl rfl rfl rfl
        refine wpList_nil ?_
        replace hS := hS.drop 1
        replace hS := hS.pk 2
        replace hS := hS.pk 2
        exact hj1 true hF ac w (hA.sub _ rfl) hS
      replace hF := iff' hb477 hF
      refine x_on hb477 hA ?_ rfl rfl rfl
      refine x_move hA (fun ac hA => ?_) rfl rfl rfl rfl rfl
      refine x_on hb477 hA ?_ rfl rfl rfl
      obtain ⟨x478, h479, hF⟩ := ltt_ hF
      refine x_val (v := .int .i64 x478) hA (rv_i h479 (r_quo rfl (hA.ev rfl) (hA.ev rfl) (by decide))) (fun ac hA => ?_) rfl rfl rfl
      refine x_on hb477 hA ?_ rfl rfl rfl
      refine x_move hA (fun ac hA => ?_) rfl rfl rfl rfl rfl
      refine x_on hb477 hA ?_ rfl rfl rfl
      refine x_len Try.underlying22 (hS.rdw 0 rfl).2.1 hA (fun ac hA => ?_) rfl rfl rfl rfl rfl
      refine x_on hb477 hA ?_ rfl rfl rfl
      refine x_val hA (r_geI rfl (hA.ev rfl) (hA.ev rfl)) (fun ac hA => ?_) rfl rfl rfl
      refine x_pickf hb477 hA (fun ac hA => ?_) rfl rfl rfl rfl rfl rfl
      refine wpList_nil ?_
      replace hS := hS.drop 1
      replace hS := hS.pk 2
      replace hS := hS.pk 2
      exact hj1 (decide (((stb (x436.f1 ++ x436.f2)).length : Int) ≤ x478)) hF ac w (hA.sub _ rfl) hS
    obtain ⟨t550, hl550, hF⟩ := bnd hF
    have hx550_0 : ∀ (x550 : Int), (x550) = t550 → ∀ (ac : Act) (w : World), FR 117 [] ac [(0, .pointer none), (1, .pointer (some ⟨g1, 0, none⟩)), (2, str a2), (3, .int .i64 a3), (9, .int .i64 x550)] → SH r (blk g1 53 [.slice A103 n104 c105, .int .i64 a1.f1, .int .i64 a1.f2, .bool a1.f3, .int .i64 a1.f4] :: own k62 62 A103 n104 c105 a1.f0 :: L) w → Kx322 ac w := by
      intro x550 ht ac w hA hS
      subst ht
      replace hF : law05_spoil_x1_0 a1 a2 a3 x550 = some y := hF
      unfold law05_spoil_x1_0 at hF
      exact hb1 x550 hF ac w (hA.sub _ rfl) hS
    refine wp_loop_fn hl550 (fun s ac w => FR 117 [] ac [(0, .pointer none), (1, .pointer (some ⟨g1, 0, none⟩)), (2, str a2), (3, .int .i64 a3), (9, .int .i64 s.1), (10, .int .i64 s.2)] ∧ SH r (blk g1 53 [.slice A103 n104 c105, .int .i64 a1.f1, .int .i64 a1.f2, .bool a1.f3, .int .i64 a1.f4] :: own k62 62 A103 n104 c105 a1.f0 :: L) w) ⟨hA.sub _ rfl, hS⟩ ?_
    intro N550 s550 o550 hF N550_ T550_ ac w hLab
    obtain ⟨x514, x515⟩ := s550
    replace hF : law05_spoil_l1 a1 a2 x514 x515 = some o550 := hF
    unfold law05_spoil_l1 at hF
    try dsimp only at hLab
    obtain ⟨hA, hS⟩ := hLab
    refine wp_seq_k fun K552 hK552 => ?_
    refine wp_seq_k fun K553 hK553 => ?_
    refine wp_reg ?_
    refine x_move hA (fun ac hA => ?_) rfl rfl rfl rfl rfl
    refine x_move hA (fun ac hA => ?_) rfl rfl rfl rfl rfl
    refine x_val hA (r_nilCheck rfl (hA.ev rfl)) (fun ac hA => ?_) rfl rfl rfl
    refine x_fab fa53_0 hA (fun ac hA => ?_) rfl rfl rfl rfl rfl
    refine x_ld Try.underlying51 (hS.cell 0 rfl 0 _ rfl) hA (fun ac hA => ?_) rfl rfl rfl rfl rfl rfl
    refine x_len Try.underlying51 (hS.rd 1 rfl).2.1 hA (fun ac hA => ?_) rfl rfl rfl rfl rfl
    refine x_val hA (r_ltI rfl (hA.ev rfl) (hA.ev rfl)) (fun ac hA => ?_) rfl rfl rfl
    refine wpList_nil ?_
    refine hK553 _ _ ?_
    refine c_if hA rfl (fun hb554 => ?_) fun hb554 => ?_
    · replace hF := ift hb554 hF
      refine wp_skip ?_
      refine hK552 _ _ ?_
      refine wp_seq_k fun K555 hK555 => ?_
      refine wp_block_k fun Kx569 hKx569 => ?_
      have hb2 : ∀ (x575 : Int), law05_spoil_b2 x515 x575 = some o550 → ∀ (ac : Act) (w : World), FR 117 [] ac [(0, .pointer none), (1, .pointer (some ⟨g1, 0, none⟩)), (2, str a2), (3, .int .i64 a3), (9, .int .i64 x575), (10, .int .i64 x515)] → SH r (blk g1 53 [.slice A103 n104 c105, .int .i64 a1.f1, .int .i64 a1.f2, .bool a1.f3, .int .i64 a1.f4] :: own k62 62 A103 n104 c105 a1.f0 :: L) w → Kx569 ac w := by
        intro x575 hF ac w hA hS
        unfold law05_spoil_b2 at hF
        refine hKx569 _ _ ?_
        refine hK555 _ _ ?_
        refine wp_reg ?_
        refine x_move hA (fun ac hA => ?_) rfl rfl rfl rfl rfl
        obtain ⟨x576, h577, hF⟩ := ltt_ hF
        refine x_val (v := .int .i64 x576) hA (rv_i h577 (r_add rfl (hA.ev rfl) (hA.ev rfl))) (fun ac hA => ?_) rfl rfl rfl
        refine x_assign hA (fun ac hA => ?_) rfl rfl rfl rfl rfl
        refine wpList_nil ?_
        cases hF
        exact ⟨_, N550_ _ rfl, hA.sub _ rfl, hS⟩
      refine wp_seq_k fun K578 hK578 => ?_
      refine wp_reg ?_
      refine x_move hA (fun ac hA => ?_) rfl rfl rfl rfl rfl
      refine x_val hA (r_nilCheck rfl (hA.ev rfl)) (fun ac hA => ?_) rfl rfl rfl
      refine x_fab fa53_0 hA (fun ac hA => ?_) rfl rfl rfl rfl rfl
      refine x_ld Try.underlying51 (hS.cell 0 rfl 0 _ rfl) hA (fun ac hA => ?_) rfl rfl rfl rfl rfl rfl
      refine x_move hA (fun ac hA => ?_) rfl rfl rfl rfl rfl
      obtain ⟨x579, h580, hF⟩ := bnd hF
      refine x_ia Try.underlying51 sz62 (hS.rd 1 rfl) h580 hA (fun ac hA => ?_) rfl rfl rfl rfl rfl rfl
      refine x_fae (m := x515.toNat * 3) fa62_0 hA (fun ac hA => ?_) rfl rfl rfl rfl rfl
      obtain ⟨cs, hV, hc581⟩ := el (hS.rd 1 rfl) h580
      obtain rfl := hV
      refine x_ld Try.underlying9 (hc581 0 _ rfl) hA (fun ac hA => ?_) rfl rfl rfl rfl rfl rfl
      refine x_move hA (fun ac hA => ?_) rfl rfl rfl rfl rfl
      refine x_val hA (r_eqS rfl (hA.ev rfl) (hA.ev rfl)) (fun ac hA => ?_) rfl rfl rfl
      refine wpList_nil ?_
      refine hK578 _ _ ?_
      refine c_if hA rfl (fun hb582 => ?_) fun hb582 => ?_
      · replace hF := ift hb582 hF
        refine wp_reg ?_
        refine x_move hA (fun ac hA => ?_) rfl rfl rfl rfl rfl
        refine x_assign hA (fun ac hA => ?_) rfl rfl rfl rfl rfl
        refine wpList_nil ?_
        exact hb2 x515 hF ac w (hA.sub _ rfl) hS
      replace hF := iff' hb582 hF
      refine wp_skip ?_
      exact hb2 x514 hF ac w (hA.sub _ rfl) hS
    replace hF := iff' hb554 hF
    refine wp_exit ?_
    cases hF
    exact hx550_0 x514 (T550_ _ rfl) ac w (hA.sub _ rfl) hS
  | some x101 =>
    have hU := SH.unoptS hS
    clear hS
    obtain ⟨g102, rfl, hS⟩ := hU
    obtain ⟨A583, n584, c585, hS⟩ := obj68_open hS
    replace hS := hS.pk 2
    obtain ⟨A586, n587, c588, hS⟩ := obj53_open hS
    refine wp_seq_k fun K589 hK589 => ?_
    refine wp_reg ?_
    refine x_assign hA (fun ac hA => ?_) rfl rfl rfl rfl rfl
    refine wpList_nil ?_
    refine hK589 _ _ ?_
    refine wp_seq_k fun K590 hK590 => ?_
    refine wp_reg ?_
    refine x_assign hA (fun ac hA => ?_) rfl rfl rfl rfl rfl
    refine wpList_nil ?_
    refine hK590 _ _ ?_
    refine wp_seq_k fun K591 hK591 => ?_
    refine wp_seq_k fun K804 hK804 => ?_
    refine wp_reg ?_
    refine x_assign hA (fun ac hA => ?_) rfl rfl rfl rfl rfl
    refine wpList_nil ?_
    refine hK804 _ _ ?_
    refine wp_block_k fun Kx805 hKx805 => ?_
    have hb3 : ∀ (x910 : Int), law05_spoil_b3 a1 a2 a3 x101 x910 = some y → ∀ (ac : Act) (w : World), FR 117 [] ac [(0, .pointer (some ⟨g102, 0, none⟩)), (1, .pointer (some ⟨g1, 0, none⟩)), (2, str a2), (3, .int .i64 a3), (9, .int .i64 x910)] → SH r (blk g102 68 [.slice A583 n584 c585, .int .i64 x101.f1, .int .i64 x101.f2, .bool x101.f3, .int .i64 x101.f4] :: blk g1 53 [.slice A586 n587 c588, .int .i64 a1.f1, .int .i64 a1.f2, .bool a1.f3, .int .i64 a1.f4] :: own2 kp73 (kI .u8) 5 (fun x : S73 => x.f1) 73 A583 n584 c585 x101.f0 :: own k62 62 A586 n587 c588 a1.f0 :: L) w → Kx805 ac w := by
      intro x910 hF ac w hA hS
      unfold law05_spoil_b3 at hF
      refine hKx805 _ _ ?_
      refine hK591 _ _ ?_
      refine wp_seq_k fun K911 hK911 => ?_
      refine wp_reg ?_
      refine x_move hA (fun ac hA => ?_) rfl rfl rfl rfl rfl
      refine x_move hA (fun ac hA => ?_) rfl rfl rfl rfl rfl
      refine x_move hA (fun ac hA => ?_) rfl rfl rfl rfl rfl
      replace hS := hS.pk 2
      replace hS := hS.pk 1
      replace hS := obj68_mk (x := x101) hS
      replace hS := SH.optS hS
      obtain ⟨y912, h913, hF⟩ := bnd hF
      refine x_call en34 hA (F_files_Store_Spoil (L := blk g1 53 [.slice A586 n587 c588, .int .i64 a1.f1, .int .i64 a1.f2, .bool a1.f3, .int .i64 a1.f4] :: own k62 62 A586 n587 c588 a1.f0 :: L) (some x101) a2 a3 (some ⟨g102, 0, none⟩) h913 hS) (fun v ac w hR hA => ?_) rfl rfl rfl rfl rfl
      obtain ⟨rfl, hS⟩ := hR
      obtain ⟨o914, h915, hF⟩ := bnd hF
      rw [h915] at hS
      replace hS := SH.unoptP hS
      obtain ⟨A916, n917, c918, hS⟩ := obj68_open hS
      refine x_assign hA (fun ac hA => ?_) rfl rfl rfl rfl rfl
      refine wpList_nil ?_
      refine hK911 _ _ ?_
      refine wp_seq_k fun K919 hK919 => ?_
      refine wp_seq_k fun K920 hK920 => ?_
      refine wp_reg ?_
      refine x_move hA (fun ac hA => ?_) rfl rfl rfl rfl rfl
      refine x_val hA (r_ltI rfl (hA.ev rfl) (hA.ev rfl)) (fun ac hA => ?_) rfl rfl rfl
      refine wpList_nil ?_
      refine hK920 _ _ ?_
      refine c_if hA rfl (fun hb921 => ?_) fun hb921 => ?_
      · replace hF := ift hb921 hF
        refine wp_seq_k fun K922 hK922 => ?_
        refine wp_reg ?_
        refine x_move hA (fun ac hA => ?_) rfl rfl rfl rfl rfl
        refine x_val hA (r_eqI rfl (hA.ev rfl) (hA.ev rfl)) (fun ac hA => ?_) rfl rfl rfl
        refine x_assign hA (fun ac hA => ?_) rfl rfl rfl rfl rfl
        refine wpList_nil ?_
        refine hK922 _ _ ?_
        refine wp_ret ?_
        replace hS := hS.pk 3
        replace hS := hS.pk 3
        replace hS := obj53_mk (x := a1) hS
        replace hS := hS.pk 2
        replace hS := hS.pk 2
        replace hS := obj68_mk (x := o914) hS
        replace hS := SH.optS hS
        replace hS := hS.pk 1
        replace hS := hS.pk 1
        cases hF
        refine hQ _ _ ?_
        refine lv Try.results29 hA rfl ?_
        exact ⟨rfl, hS⟩
      replace hF := iff' hb921 hF
      refine wp_skip ?_
      refine hK919 _ _ ?_
      refine wp_seq_k fun K923 hK923 => ?_
      refine wp_reg ?_
      refine x_move hA (fun ac hA => ?_) rfl rfl rfl rfl rfl
      refine x_val hA (r_nilCheck rfl (hA.ev rfl)) (fun ac hA => ?_) rfl rfl rfl
      refine x_fab fa53_0 hA (fun ac hA => ?_) rfl rfl rfl rfl rfl
      refine x_ld Try.underlying51 (hS.cell 2 rfl 0 _ rfl) hA (fun ac hA => ?_) rfl rfl rfl rfl rfl rfl
      refine x_move hA (fun ac hA => ?_) rfl rfl rfl rfl rfl
      obtain ⟨x924, h925, hF⟩ := bnd hF
      refine x_ia Try.underlying51 sz62 (hS.rd 3 rfl) h925 hA (fun ac hA => ?_) rfl rfl rfl rfl rfl rfl
      refine x_fae (m := x910.toNat * 3) fa62_1 hA (fun ac hA => ?_) rfl rfl rfl rfl rfl
      obtain ⟨cs, hV, hc926⟩ := el (hS.rd 3 rfl) h925
      obtain rfl := hV
      refine x_ld Try.underlying9 (hc926 1 _ rfl) hA (fun ac hA => ?_) rfl rfl rfl rfl rfl rfl
      refine x_val hA (r_lenS Try.underlying9 rfl (hA.ev rfl)) (fun ac hA => ?_) rfl rfl rfl
      refine x_assign hA (fun ac hA => ?_) rfl rfl rfl rfl rfl
      refine wpList_nil ?_
      refine hK923 _ _ ?_
      refine wp_seq_k fun K927 hK927 => ?_
      refine wp_draw [0, 1, 3, 7, 0, 31, 63, 127, 0, 256, 768, 1792, 0, 7936, 16128, 32512, 65535, 131071, 262143] [17] rfl hA hS (by kernel_rfl) (by kernel_rfl) (by kernel_rfl) (by kernel_rfl) fun w hS => ?_
      obtain ⟨cs, hV, hc928⟩ := el (hS.rd 3 rfl) h925
      obtain rfl := hV
      obtain ⟨cs, hV, hc929⟩ := el (hS.rd 3 rfl) h925
      obtain rfl := hV
      obtain ⟨h930, hF⟩ := chk_some hF
      refine ⟨[(0, .pointer (some ⟨g1, 0, none⟩)), (1, .pointer (some ⟨g1, 0, none⟩)), (2, .pointer (some ⟨g1, 0, none⟩)), (3, .slice A586 n587 c588), (4, .int .i64 x910), (5, .pointer (some (ea A586 (x910.toNat * 3)))), (6, .pointer (some (ea A586 (x910.toNat * 3 + 1)))), (7, str x924.f1), (8, .pointer (some ⟨g1, 0, none⟩)), (9, .pointer (some ⟨g1, 0, none⟩)), (10, .pointer (some ⟨g1, 0, none⟩)), (11, .slice A586 n587 c588), (12, .int .i64 x910), (13, .pointer (some (ea A586 (x910.toNat * 3)))), (14, .pointer (some (ea A586 (x910.toNat * 3 + 2)))), (15, str x924.f2), (16, str (x924.f1 ++ x924.f2))], ?_⟩
      refine dEff [0, 1, 2, 3, 4, 5, 6, 7, 8, 9, 10, 11, 12, 13, 14, 15, 16] [17] (by kernel_rfl) ⟨pu rfl rfl [(1, .pointer (some ⟨g1, 0, none⟩))] (fun ac hA => y_move hA rfl rfl) rfl rfl, pu rfl rfl [(51, .pointer (some ⟨g1, 0, none⟩))] (fun ac hA => r_nilCheck rfl (hA.ev rfl)) rfl rfl, pu rfl rfl [(52, .pointer (some ⟨g1, 0, none⟩))] (fun ac hA => y_fab fa53_0 hA rfl rfl) rfl rfl, pu rfl rfl [(53, .pointer (some ⟨g1, 0, none⟩))] (fun ac hA => y_ld Try.underlying51 (hS.cell 2 rfl 0 _ rfl) hA rfl rfl rfl) rfl rfl, pu rfl rfl [(9, .int .i64 x910)] (fun ac hA => y_move hA rfl rfl) rfl rfl, pu rfl rfl [(54, .slice A586 n587 c588), (55, .int .i64 x910)] (fun ac hA => y_ia Try.underlying51 sz62 (hS.rd 3 rfl) h925 hA rfl rfl rfl) rfl rfl, pu rfl rfl [(56, .pointer (some (ea A586 (x910.toNat * 3))))] (fun ac hA => y_fae (m := x910.toNat * 3) fa62_1 hA rfl rfl) rfl rfl, pu rfl rfl [(57, .pointer (some (ea A586 (x910.toNat * 3 + 1))))] (fun ac hA => y_ld Try.underlying9 (hc928 1 _ rfl) hA rfl rfl rfl) rfl rfl, pu rfl rfl [(1, .pointer (some ⟨g1, 0, none⟩))] (fun ac hA => y_move hA rfl rfl) rfl rfl, pu rfl rfl [(59, .pointer (some ⟨g1, 0, none⟩))] (fun ac hA => r_nilCheck rfl (hA.ev rfl)) rfl rfl, pu rfl rfl [(60, .pointer (some ⟨g1, 0, none⟩))] (fun ac hA => y_fab fa53_0 hA rfl rfl) rfl rfl, pu rfl rfl [(61, .pointer (some ⟨g1, 0, none⟩))] (fun ac hA => y_ld Try.underlying51 (hS.cell 2 rfl 0 _ rfl) hA rfl rfl rfl) rfl rfl, pu rfl rfl [(9, .int .i64 x910)] (fun ac hA => y_move hA rfl rfl) rfl rfl, pu rfl rfl [(62, .slice A586 n587 c588), (63, .int .i64 x910)] (fun ac hA => y_ia Try.underlying51 sz62 (hS.rd 3 rfl) h925 hA rfl rfl rfl) rfl rfl, pu rfl rfl [(64, .pointer (some (ea A586 (x910.toNat * 3))))] (fun ac hA => y_fae (m := x910.toNat * 3) fa62_2 hA rfl rfl) rfl rfl, pu rfl rfl [(65, .pointer (some (ea A586 (x910.toNat * 3 + 2))))] (fun ac hA => y_ld Try.underlying9 (hc929 2 _ rfl) hA rfl rfl rfl) rfl rfl, pu rfl rfl [(58, str x924.f1), (66, str x924.f2)] (fun ac hA => r_catS rfl (hA.ev rfl) (hA.ev rfl) h930) rfl rfl, trivial⟩ (by kernel_rfl) (by kernel_rfl) ⟨ef rfl [(67, str (x924.f1 ++ x924.f2))] (fun ac hA K hK => ?_) rfl rfl, trivial⟩
      obtain ⟨h934, hF⟩ := chk_some hF
      refine z_s2w (e := 5) Try.underlying22 Try.underlying5 Try.underlying9 hA hS h934 (fun A931 n932 c933 w hS => ?_) rfl rfl
      refine hK _ [(18, .slice A931 n932 c933)] _ rfl ?_
      refine dEnd [18] (by kernel_rfl) ⟨pu rfl rfl [(68, .slice A931 n932 c933)] (fun ac hA => y_assign hA rfl rfl) rfl rfl, trivial⟩ ⟨by kernel_rfl, by kernel_rfl⟩ [(0, .pointer (some ⟨g102, 0, none⟩)), (1, .pointer (some ⟨g1, 0, none⟩)), (3, .int .i64 a3), (9, .int .i64 x910), (11, .int .i64 y912.1), (12, .int .i64 (x924.f1.length : Int)), (13, .slice A931 n932 c933)] rfl (fun ac hA => ?_)
      refine hK927 _ _ ?_
      refine wp_seq_k fun K935 hK935 => ?_
      refine wp_seq_k fun K936 hK936 => ?_
      have hj2 : ∀ (b940 : Bool), law05_spoil_j2 a1 a3 x910 y912 o914 x924 b940 = some y → ∀ (ac : Act) (w : World), FR 117 [] ac [(0, .pointer (some ⟨g102, 0, none⟩)), (1, .pointer (some ⟨g1, 0, none⟩)), (3, .int .i64 a3), (9, .int .i64 x910), (11, .int .i64 y912.1), (12, .int .i64 (x924.f1.length : Int)), (13, .slice A931 n932 c933), (77, .bool b940)] → SH r (blk g102 68 [.slice A916 n917 c918, .int .i64 o914.f1, .int .i64 o914.f2, .bool o914.f3, .int .i64 o914.f4] :: blk g1 53 [.slice A586 n587 c588, .int .i64 a1.f1, .int .i64 a1.f2, .bool a1.f3, .int .i64 a1.f4] :: own2 kp73 (kI .u8) 5 (fun x : S73 => x.f1) 73 A916 n917 c918 o914.f0 :: own k62 62 A586 n587 c588 a1.f0 :: ownw 5 A931 n932 c933 (stb (x924.f1 ++ x924.f2)) :: L) w → K936 ac w := by
        intro b940 hF ac w hA hS
        unfold law05_spoil_j2 at hF
        refine hK936 _ _ ?_
        refine c_if hA rfl (fun hb941 => ?_) fun hb941 => ?_
        · replace hF := ift hb941 hF
          refine wp_seq_k fun K942 hK942 => ?_
          refine wp_reg ?_
          refine x_move hA (fun ac hA => ?_) rfl rfl rfl rfl rfl
          refine x_val hA (r_eqI rfl (hA.ev rfl) (hA.ev rfl)) (fun ac hA => ?_) rfl rfl rfl
          refine x_assign hA (fun ac hA => ?_) rfl rfl rfl rfl rfl
          refine wpList_nil ?_
          refine hK942 _ _ ?_
          refine wp_ret ?_
          replace hS := hS.pk 3
          replace hS := hS.pk 2
          replace hS := obj53_mk (x := a1) hS
          replace hS := hS.pk 2
          replace hS := hS.pk 2
          replace hS := obj68_mk (x := o914) hS
          replace hS := SH.optS hS
          replace hS := hS.drop 2
          replace hS := hS.pk 1
          replace hS := hS.pk 1
          cases hF
          refine hQ _ _ ?_
          refine lv Try.results29 hA rfl ?_
          exact ⟨rfl, hS⟩
        replace hF := iff' hb941 hF
        refine wp_skip ?_
        refine hK935 _ _ ?_
        refine wp_seq_k fun K943 hK943 => ?_
        refine wp_draw [0, 0, 2, 0, 0, 16, 56, 120, 0, 256, 768, 2040, 4095, 8191] [13] rfl hA hS (by kernel_rfl) (by kernel_rfl) (by kernel_rfl) (by kernel_rfl) fun w hS => ?_
        obtain ⟨x944, h945, hF⟩ := ltt_ hF
        obtain ⟨x946, h947, hF⟩ := bnd hF
        obtain ⟨cs, hV, hc948⟩ := el (hS.rdw 4 rfl) h947
        obtain rfl := hV
        obtain ⟨h949, hF⟩ := chk_some hF
        obtain ⟨x950, h951, hF⟩ := ltt_ hF
        obtain ⟨x952, h953, hF⟩ := ltt_ hF
        refine ⟨[(0, .slice A931 n932 c933), (1, .int .i64 a3), (2, .int .i64 x944), (3, .slice A931 n932 c933), (4, .int .i64 a3), (5, .int .i64 x944), (6, .pointer (some (ea A931 (x944.toNat * 1)))), (7, .int .u8 x946), (8, .int .i64 a3), (9, .int .i64 (a3.tmod 8)), (10, .int .u8 x950), (11, .int .u8 x952), (12, .pointer (some (ea A931 (x944.toNat * 1))))], ?_⟩
        refine dEff [0, 1, 2, 3, 4, 5, 6, 7, 8, 9, 10, 11, 12] [13] (by kernel_rfl) ⟨pu rfl rfl [(13, .slice A931 n932 c933)] (fun ac hA => y_move hA rfl rfl) rfl rfl, pu rfl rfl [(3, .int .i64 a3)] (fun ac hA => y_move hA rfl rfl) rfl rfl, pu rfl rfl [(81, .int .i64 a3)] (fun ac hA => (rv_i h945 (r_quo rfl (hA.ev rfl) (hA.ev rfl) (by decide)) : RunV _ _ _ _ (.int .i64 x944))) rfl rfl, pu rfl rfl [(13, .slice A931 n932 c933)] (fun ac hA => y_move hA rfl rfl) rfl rfl, pu rfl rfl [(3, .int .i64 a3)] (fun ac hA => y_move hA rfl rfl) rfl rfl, pu rfl rfl [(84, .int .i64 a3)] (fun ac hA => (rv_i h945 (r_quo rfl (hA.ev rfl) (hA.ev rfl) (by decide)) : RunV _ _ _ _ (.int .i64 x944))) rfl rfl, pu rfl rfl [(83, .slice A931 n932 c933), (85, .int .i64 x944)] (fun ac hA => y_ia Try.underlying22 sz5 (hS.rdw 4 rfl) h947 hA rfl rfl rfl) rfl rfl, pu rfl rfl [(86, .pointer (some (ea A931 (x944.toNat * 1))))] (fun ac hA => y_ld Try.underlying5 (hc948 0 _ rfl) hA rfl rfl rfl) rfl rfl, pu rfl rfl [(3, .int .i64 a3)] (fun ac hA => y_move hA rfl rfl) rfl rfl, pu rfl rfl [(88, .int .i64 a3)] (fun ac hA => r_rem rfl (hA.ev rfl) (hA.ev rfl) (by decide)) rfl rfl, pu rfl rfl [(89, .int .i64 (a3.tmod 8))] (fun ac hA => (rv_i h951 (r_shl rfl (hA.ev rfl) (hA.ev rfl) h949) : RunV _ _ _ _ (.int .u8 x950))) rfl rfl, pu rfl rfl [(87, .int .u8 x946), (90, .int .u8 x950)] (fun ac hA => (rv_i h953 (r_xor rfl (hA.ev rfl) (hA.ev rfl)) : RunV _ _ _ _ (.int .u8 x952))) rfl rfl, pu rfl rfl [(80, .slice A931 n932 c933), (82, .int .i64 x944)] (fun ac hA => y_ia Try.underlying22 sz5 (hS.rdw 4 rfl) h947 hA rfl rfl rfl) rfl rfl, trivial⟩ (by kernel_rfl) (by kernel_rfl) ⟨ef rfl [(91, .int .u8 x952), (92, .pointer (some (ea A931 (x944.toNat * 1))))] (fun ac hA K hK => ?_) rfl rfl, trivial⟩
        refine z_stw 4 sz5 hA hS rfl h947 (fun  w hS => ?_) rfl rfl rfl
        refine hK _ [] _ rfl ?_
        refine dEnd [] (by kernel_rfl) trivial ⟨by kernel_rfl, by kernel_rfl⟩ [(0, .pointer (some ⟨g102, 0, none⟩)), (1, .pointer (some ⟨g1, 0, none⟩)), (9, .int .i64 x910), (11, .int .i64 y912.1), (12, .int .i64 (x924.f1.length : Int)), (13, .slice A931 n932 c933)] rfl (fun ac hA => ?_)
        refine hK943 _ _ ?_
        refine wp_seq_k fun K954 hK954 => ?_
        refine wp_draw [0, 1, 3, 7, 0, 0, 0, 96, 224, 511, 1023, 2047] [11] rfl hA hS (by kernel_rfl) (by kernel_rfl) (by kernel_rfl) (by kernel_rfl) fun w hS => ?_
        obtain ⟨l955, h956, hF⟩ := bnd hF
        obtain ⟨x957, h958, hF⟩ := bnd hF
        refine ⟨[(0, .pointer (some ⟨g1, 0, none⟩)), (1, .pointer (some ⟨g1, 0, none⟩)), (2, .pointer (some ⟨g1, 0, none⟩)), (3, .slice A586 n587 c588), (4, .int .i64 x910), (5, .slice A931 n932 c933), (6, .int .i64 (x924.f1.length : Int)), (7, .slice A931 ((x924.f1.length : Int).toNat) c933), (8, str (bts l955)), (9, .pointer (some (ea A586 (x910.toNat * 3)))), (10, .pointer (some (ea A586 (x910.toNat * 3 + 1))))], ?_⟩
        refine dEff [0, 1, 2, 3, 4, 5, 6, 7, 8, 9, 10] [11] (by kernel_rfl) ⟨pu rfl rfl [(1, .pointer (some ⟨g1, 0, none⟩))] (fun ac hA => y_move hA rfl rfl) rfl rfl, pu rfl rfl [(93, .pointer (some ⟨g1, 0, none⟩))] (fun ac hA => r_nilCheck rfl (hA.ev rfl)) rfl rfl, pu rfl rfl [(94, .pointer (some ⟨g1, 0, none⟩))] (fun ac hA => y_fab fa53_0 hA rfl rfl) rfl rfl, pu rfl rfl [(95, .pointer (some ⟨g1, 0, none⟩))] (fun ac hA => y_ld Try.underlying51 (hS.cell 2 rfl 0 _ rfl) hA rfl rfl rfl) rfl rfl, pu rfl rfl [(9, .int .i64 x910)] (fun ac hA => y_move hA rfl rfl) rfl rfl, pu rfl rfl [(13, .slice A931 n932 c933)] (fun ac hA => y_move hA rfl rfl) rfl rfl, pu rfl rfl [(12, .int .i64 (x924.f1.length : Int))] (fun ac hA => y_move hA rfl rfl) rfl rfl, pu rfl rfl [(98, .slice A931 n932 c933), (99, .int .i64 (x924.f1.length : Int))] (fun ac hA => r_slice_h Try.underlying22 sz5 rfl (hA.ev rfl) (hA.ev rfl) (cutq (hS.rdw 0 rfl) h956).2.2.2.2.1 (cutq (hS.rdw 0 rfl) h956).2.2.1) rfl rfl, pu rfl rfl [(100, .slice A931 ((x924.f1.length : Int).toNat) c933)] (fun ac hA => y_b2s Try.underlying22 Try.underlying5 Try.underlying9 (rq_h (hS.rdw 0 rfl) h956) hA rfl rfl) rfl rfl, pu rfl rfl [(96, .slice A586 n587 c588), (97, .int .i64 x910)] (fun ac hA => y_ia Try.underlying51 sz62 (hS.rd 4 rfl) h958 hA rfl rfl rfl) rfl rfl, pu rfl rfl [(102, .pointer (some (ea A586 (x910.toNat * 3))))] (fun ac hA => y_fae (m := x910.toNat * 3) fa62_1 hA rfl rfl) rfl rfl, trivial⟩ (by kernel_rfl) (by kernel_rfl) ⟨ef rfl [(101, str (bts l955)), (103, .pointer (some (ea A586 (x910.toNat * 3 + 1))))] (fun ac hA K hK => ?_) rfl rfl, trivial⟩
        refine z_sto (z' := (⟨x957.f0, bts l955, x957.f2⟩ : S62)) (off := 1) (vs := [str (bts l955)]) 4 sz9 hA hS rfl (at_some h958).2.2 (fun c h => by cases h; rfl) (fun  w hS => ?_) rfl rfl rfl rfl rfl rfl
        refine hK _ [] _ rfl ?_
        refine dEnd [] (by kernel_rfl) trivial ⟨by kernel_rfl, by kernel_rfl⟩ [(0, .pointer (some ⟨g102, 0, none⟩)), (1, .pointer (some ⟨g1, 0, none⟩)), (9, .int .i64 x910), (11, .int .i64 y912.1), (12, .int .i64 (x924.f1.length : Int)), (13, .slice A931 n932 c933)] rfl (fun ac hA => ?_)
        refine hK954 _ _ ?_
        refine wp_seq_k fun K959 hK959 => ?_
        refine wp_draw [0, 1, 3, 7, 0, 0, 0, 96, 224, 511, 1023, 2047] [11] rfl hA hS (by kernel_rfl) (by kernel_rfl) (by kernel_rfl) (by kernel_rfl) fun w hS => ?_
        obtain ⟨l960, h961, hF⟩ := bnd hF
        obtain ⟨x962, h963, hF⟩ := bnd hF
        refine ⟨[(0, .pointer (some ⟨g1, 0, none⟩)), (1, .pointer (some ⟨g1, 0, none⟩)), (2, .pointer (some ⟨g1, 0, none⟩)), (3, .slice A586 n587 c588), (4, .int .i64 x910), (5, .slice A931 n932 c933), (6, .int .i64 (x924.f1.length : Int)), (7, .slice (if c933 = (x924.f1.length : Int).toNat then A931 else A931.map (·.add ((x924.f1.length : Int).toNat * 1))) (n932 - (x924.f1.length : Int).toNat) (c933 - (x924.f1.length : Int).toNat)), (8, str (bts l960)), (9, .pointer (some (ea A586 (x910.toNat * 3)))), (10, .pointer (some (ea A586 (x910.toNat * 3 + 2))))], ?_⟩
        refine dEff [0, 1, 2, 3, 4, 5, 6, 7, 8, 9, 10] [11] (by kernel_rfl) ⟨pu rfl rfl [(1, .pointer (some ⟨g1, 0, none⟩))] (fun ac hA => y_move hA rfl rfl) rfl rfl, pu rfl rfl [(104, .pointer (some ⟨g1, 0, none⟩))] (fun ac hA => r_nilCheck rfl (hA.ev rfl)) rfl rfl, pu rfl rfl [(105, .pointer (some ⟨g1, 0, none⟩))] (fun ac hA => y_fab fa53_0 hA rfl rfl) rfl rfl, pu rfl rfl [(106, .pointer (some ⟨g1, 0, none⟩))] (fun ac hA => y_ld Try.underlying51 (hS.cell 3 rfl 0 _ rfl) hA rfl rfl rfl) rfl rfl, pu rfl rfl [(9, .int .i64 x910)] (fun ac hA => y_move hA rfl rfl) rfl rfl, pu rfl rfl [(13, .slice A931 n932 c933)] (fun ac hA => y_move hA rfl rfl) rfl rfl, pu rfl rfl [(12, .int .i64 (x924.f1.length : Int))] (fun ac hA => y_move hA rfl rfl) rfl rfl, pu rfl rfl [(109, .slice A931 n932 c933), (110, .int .i64 (x924.f1.length : Int))] (fun ac hA => r_slice_l Try.underlying22 sz5 rfl (hA.ev rfl) (hA.ev rfl) (cutq (hS.rdw 1 rfl) h961).1 (cutq (hS.rdw 1 rfl) h961).2.2.2.2.2) rfl rfl, pu rfl rfl [(111, .slice (if c933 = (x924.f1.length : Int).toNat then A931 else A931.map (·.add ((x924.f1.length : Int).toNat * 1))) (n932 - (x924.f1.length : Int).toNat) (c933 - (x924.f1.length : Int).toNat))] (fun ac hA => y_b2s Try.underlying22 Try.underlying5 Try.underlying9 (rq_l (hS.rdw 1 rfl) h961) hA rfl rfl) rfl rfl, pu rfl rfl [(107, .slice A586 n587 c588), (108, .int .i64 x910)] (fun ac hA => y_ia Try.underlying51 sz62 (hS.rd 0 rfl) h963 hA rfl rfl rfl) rfl rfl, pu rfl rfl [(113, .pointer (some (ea A586 (x910.toNat * 3))))] (fun ac hA => y_fae (m := x910.toNat * 3) fa62_2 hA rfl rfl) rfl rfl, trivial⟩ (by kernel_rfl) (by kernel_rfl) ⟨ef rfl [(112, str (bts l960)), (114, .pointer (some (ea A586 (x910.toNat * 3 + 2))))] (fun ac hA K hK => ?_) rfl rfl, trivial⟩
        refine z_sto (z' := (⟨x962.f0, x962.f1, bts l960⟩ : S62)) (off := 2) (vs := [str (bts l960)]) 0 sz9 hA hS rfl (at_some h963).2.2 (fun c h => by cases h; rfl) (fun  w hS => ?_) rfl rfl rfl rfl rfl rfl
        refine hK _ [] _ rfl ?_
        refine dEnd [] (by kernel_rfl) trivial ⟨by kernel_rfl, by kernel_rfl⟩ [(0, .pointer (some ⟨g102, 0, none⟩)), (1, .pointer (some ⟨g1, 0, none⟩)), (11, .int .i64 y912.1)] rfl (fun ac hA => ?_)
        refine hK959 _ _ ?_
        refine wp_seq_k fun K964 hK964 => ?_
        refine wp_reg ?_
        refine x_move hA (fun ac hA => ?_) rfl rfl rfl rfl rfl
        refine x_val hA (r_eqI rfl (hA.ev rfl) (hA.ev rfl)) (fun ac hA => ?_) rfl rfl rfl
        refine x_assign hA (fun ac hA => ?_) rfl rfl rfl rfl rfl
        refine wpList_nil ?_
        refine hK964 _ _ ?_
        refine wp_ret ?_
        replace hS := hS.pk 3
        replace hS := obj53_mk (x := (⟨(a1.f0.set x910.toNat (⟨x957.f0, bts l955, x957.f2⟩ : S62)).set x910.toNat (⟨x962.f0, x962.f1, bts l960⟩ : S62), a1.f1, a1.f2, a1.f3, a1.f4⟩ : S53)) hS
        replace hS := hS.pk 3
        replace hS := hS.pk 3
        replace hS := obj68_mk (x := o914) hS
        replace hS := SH.optS hS
        replace hS := hS.drop 2
        replace hS := hS.pk 1
        replace hS := hS.pk 1
        cases hF
        refine hQ _ _ ?_
        refine lv Try.results29 hA rfl ?_
        exact ⟨rfl, hS⟩
      refine wp_reg ?_
      refine x_move hA (fun ac hA => ?_) rfl rfl rfl rfl rfl
      refine x_val hA (r_ltI rfl (hA.ev rfl) (hA.ev rfl)) (fun ac hA => ?_) rfl rfl rfl
      refine x_move hA (fun ac hA => ?_) rfl rfl rfl rfl rfl
      refine bcase (b := decide (a3 < 0)) (fun hb965 => ?_) fun hb965 => ?_
      · replace hF := ift hb965 hF
        refine x_off hb965 hA (fun ac hA => ?_) rfl rfl rfl rfl rfl
        refine x_off hb965 hA (fun ac hA => ?_) rfl rfl rfl rfl rfl
        refine x_off hb965 hA (fun ac hA => ?_) rfl rfl rfl rfl rfl
        refine x_off hb965 hA (fun ac hA => ?_) rfl rfl rfl rfl rfl
        refine x_off hb965 hA (fun ac hA => ?_) rfl rfl rfl rfl rfl
        refine x_pickt hb965 hA (fun ac hA => ?_) rfl rfl rfl rfl rfl rfl
        refine wpList_nil ?_
        replace hS := hS.pk 4
        replace hS := hS.pk 3
        replace hS := hS.pk 4
        replace hS := hS.pk 4
        exact hj2 true hF ac w (hA.sub _ rfl) hS
      replace hF := iff' hb965 hF
      refine x_on hb965 hA ?_ rfl rfl rfl
      refine x_move hA (fun ac hA => ?_) rfl rfl rfl rfl rfl
      refine x_on hb965 hA ?_ rfl rfl rfl
      obtain ⟨x966, h967, hF⟩ := ltt_ hF
      refine x_val (v := .int .i64 x966) hA (rv_i h967 (r_quo rfl (hA.ev rfl) (hA.ev rfl) (by decide))) (fun ac hA => ?_) rfl rfl rfl
      refine x_on hb965 hA ?_ rfl rfl rfl
      refine x_move hA (fun ac hA => ?_) rfl rfl rfl rfl rfl
      refine x_on hb965 hA ?_ rfl rfl rfl
      refine x_len Try.underlying22 (hS.rdw 0 rfl).2.1 hA (fun ac hA => ?_) rfl rfl rfl rfl rfl
      refine x_on hb965 hA ?_ rfl rfl rfl
      refine x_val hA (r_geI rfl (hA.ev rfl) (hA.ev rfl)) (fun ac hA => ?_) rfl rfl rfl
      refine x_pickf hb965 hA (fun ac hA => ?_) rfl rfl rfl rfl rfl rfl
      refine wpList_nil ?_
      replace hS := hS.pk 4
      replace hS := hS.pk 3
      replace hS := hS.pk 4
      replace hS := hS.pk 4
      exact hj2 (decide (((stb (x924.f1 ++ x924.f2)).length : Int) ≤ x966)) hF ac w (hA.sub _ rfl) hS
    obtain ⟨t1038, hl1038, hF⟩ := bnd hF
    have hx1038_0 : ∀ (x1038 : Int), (x1038) = t1038 → ∀ (ac : Act) (w : World), FR 117 [] ac [(0, .pointer (some ⟨g102, 0, none⟩)), (1, .pointer (some ⟨g1, 0, none⟩)), (2, str a2), (3, .int .i64 a3), (9, .int .i64 x1038)] → SH r (blk g102 68 [.slice A583 n584 c585, .int .i64 x101.f1, .int .i64 x101.f2, .bool x101.f3, .int .i64 x101.f4] :: blk g1 53 [.slice A586 n587 c588, .int .i64 a1.f1, .int .i64 a1.f2, .bool a1.f3, .int .i64 a1.f4] :: own2 kp73 (kI .u8) 5 (fun x : S73 => x.f1) 73 A583 n584 c585 x101.f0 :: own k62 62 A586 n587 c588 a1.f0 :: L) w → Kx805 ac w := by
      intro x1038 ht ac w hA hS
      subst ht
      replace hF : law05_spoil_x2_0 a1 a2 a3 x101 x1038 = some y := hF
      unfold law05_spoil_x2_0 at hF
      exact hb3 x1038 hF ac w (hA.sub _ rfl) hS
    replace hS := hS.pk 1
    replace hS := hS.pk 3
    replace hS := hS.pk 2
    replace hS := hS.pk 3
    refine wp_loop_fn hl1038 (fun s ac w => FR 117 [] ac [(0, .pointer (some ⟨g102, 0, none⟩)), (1, .pointer (some ⟨g1, 0, none⟩)), (2, str a2), (3, .int .i64 a3), (9, .int .i64 s.1), (10, .int .i64 s.2)] ∧ SH r (blk g102 68 [.slice A583 n584 c585, .int .i64 x101.f1, .int .i64 x101.f2, .bool x101.f3, .int .i64 x101.f4] :: blk g1 53 [.slice A586 n587 c588, .int .i64 a1.f1, .int .i64 a1.f2, .bool a1.f3, .int .i64 a1.f4] :: own2 kp73 (kI .u8) 5 (fun x : S73 => x.f1) 73 A583 n584 c585 x101.f0 :: own k62 62 A586 n587 c588 a1.f0 :: L) w) ⟨hA.sub _ rfl, hS⟩ ?_
    intro N1038 s1038 o1038 hF N1038_ T1038_ ac w hLab
    obtain ⟨x1002, x1003⟩ := s1038
    replace hF : law05_spoil_l2 a1 a2 x1002 x1003 = some o1038 := hF
    unfold law05_spoil_l2 at hF
    try dsimp only at hLab
    obtain ⟨hA, hS⟩ := hLab
    refine wp_seq_k fun K1040 hK1040 => ?_
    refine wp_seq_k fun K1041 hK1041 => ?_
    refine wp_reg ?_
    refine x_move hA (fun ac hA => ?_) rfl rfl rfl rfl rfl
    refine x_move hA (fun ac hA => ?_) rfl rfl rfl rfl rfl
    refine x_val hA (r_nilCheck rfl (hA.ev rfl)) (fun ac hA => ?_) rfl rfl rfl
    refine x_fab fa53_0 hA (fun ac hA => ?_) rfl rfl rfl rfl rfl
    refine x_ld Try.underlying51 (hS.cell 1 rfl 0 _ rfl) hA (fun ac hA => ?_) rfl rfl rfl rfl rfl rfl
    refine x_len Try.underlying51 (hS.rd 3 rfl).2.1 hA (fun ac hA => ?_) rfl rfl rfl rfl rfl
    refine x_val hA (r_ltI rfl (hA.ev rfl) (hA.ev rfl)) (fun ac hA => ?_) rfl rfl rfl
    refine wpList_nil ?_
    refine hK1041 _ _ ?_
    refine c_if hA rfl (fun hb1042 => ?_) fun hb1042 => ?_
    · replace hF := ift hb1042 hF
      refine wp_skip ?_
      refine hK1040 _ _ ?_
      refine wp_seq_k fun K1043 hK1043 => ?_
      refine wp_block_k fun Kx1057 hKx1057 => ?_
      have hb4 : ∀ (x1063 : Int), law05_spoil_b4 x1003 x1063 = some o1038 → ∀ (ac : Act) (w : World), FR 117 [] ac [(0, .pointer (some ⟨g102, 0, none⟩)), (1, .pointer (some ⟨g1, 0, none⟩)), (2, str a2), (3, .int .i64 a3), (9, .int .i64 x1063), (10, .int .i64 x1003)] → SH r (blk g102 68 [.slice A583 n584 c585, .int .i64 x101.f1, .int .i64 x101.f2, .bool x101.f3, .int .i64 x101.f4] :: blk g1 53 [.slice A586 n587 c588, .int .i64 a1.f1, .int .i64 a1.f2, .bool a1.f3, .int .i64 a1.f4] :: own2 kp73 (kI .u8) 5 (fun x : S73 => x.f1) 73 A583 n584 c585 x101.f0 :: own k62 62 A586 n587 c588 a1.f0 :: L) w → Kx1057 ac w := by
        intro x1063 hF ac w hA hS
        unfold law05_spoil_b4 at hF
        refine hKx1057 _ _ ?_
        refine hK1043 _ _ ?_
        refine wp_reg ?_
        refine x_move hA (fun ac hA => ?_) rfl rfl rfl rfl rfl
        obtain ⟨x1064, h1065, hF⟩ := ltt_ hF
        refine x_val (v := .int .i64 x1064) hA (rv_i h1065 (r_add rfl (hA.ev rfl) (hA.ev rfl))) (fun ac hA => ?_) rfl rfl rfl
        refine x_assign hA (fun ac hA => ?_) rfl rfl rfl rfl rfl
        refine wpList_nil ?_
        cases hF
        exact ⟨_, N1038_ _ rfl, hA.sub _ rfl, hS⟩
      refine wp_seq_k fun K1066 hK1066 => ?_
      refine wp_reg ?_
      refine x_move hA (fun ac hA => ?_) rfl rfl rfl rfl rfl
      refine x_val hA (r_nilCheck rfl (hA.ev rfl)) (fun ac hA => ?_) rfl rfl rfl
      refine x_fab fa53_0 hA (fun ac hA => ?_) rfl rfl rfl rfl rfl
      refine x_ld Try.underlying51 (hS.cell 1 rfl 0 _ rfl) hA (fun ac hA => ?_) rfl rfl rfl rfl rfl rfl
      refine x_move hA (fun ac hA => ?_) rfl rfl rfl rfl rfl
      obtain ⟨x1067, h1068, hF⟩ := bnd hF
      refine x_ia Try.underlying51 sz62 (hS.rd 3 rfl) h1068 hA (fun ac hA => ?_) rfl rfl rfl rfl rfl rfl
      refine x_fae (m := x1003.toNat * 3) fa62_0 hA (fun ac hA => ?_) rfl rfl rfl rfl rfl
      obtain ⟨cs, hV, hc1069⟩ := el (hS.rd 3 rfl) h1068
      obtain rfl := hV
      refine x_ld Try.underlying9 (hc1069 0 _ rfl) hA (fun ac hA => ?_) rfl rfl rfl rfl rfl rfl
      refine x_move hA (fun ac hA => ?_) rfl rfl rfl rfl rfl
      refine x_val hA (r_eqS rfl (hA.ev rfl) (hA.ev rfl)) (fun ac hA => ?_) rfl rfl rfl
      refine wpList_nil ?_
      refine hK1066 _ _ ?_
      refine c_if hA rfl (fun hb1070 => ?_) fun hb1070 => ?_
      · replace hF := ift hb1070 hF
        refine wp_reg ?_
        refine x_move hA (fun ac hA => ?_) rfl rfl rfl rfl rfl
        refine x_assign hA (fun ac hA => ?_) rfl rfl rfl rfl rfl
        refine wpList_nil ?_
        exact hb4 x1003 hF ac w (hA.sub _ rfl) hS
      replace hF := iff' hb1070 hF
      refine wp_skip ?_
      exact hb4 x1002 hF ac w (hA.sub _ rfl) hS
    replace hF := iff' hb1042 hF
    refine wp_exit ?_
    cases hF
    exact hx1038_0 x1002 (T1038_ _ rfl) ac w (hA.sub _ rfl) hS

set_option maxHeartbeats 4000000 in
theorem F_law05_FilesPlays {r : World} {L : List HP} {w : World} {Z : Nat → Prop} {wz : World} (a0 : Int) (a1 : (List S45)) (A1 : Option Addr) (n1 : Nat) (c1 : Nat) {y : (Bool)} (hF : law05_FilesPlays a0 a1 = some y) (qz : Nat) (hZ : L[qz]? = some (zone Z wz)) (ha1 : RdL L (kz45 Z wz) A1 n1 c1 a1) (hS : SH r (L) w) :
    Ret Try.prog 8 #[.int .i64 a0, .slice A1 n1 c1] w fun v w' => v = .bool y ∧ SH r (L) w' := by
  refine enter Try.func8 rfl Try.ntmps8 [(0, .int .i64 a0), (1, .slice A1 n1 c1)] rfl (by simp) ?_
  intro ac hA Qf hQ hQn
  unfold law05_FilesPlays at hF
  refine wp_seq_k fun K101 hK101 => ?_
  refine wp_reg ?_
  refine x_assign hA (fun ac hA => ?_) rfl rfl rfl rfl rfl
  refine wpList_nil ?_
  refine hK101 _ _ ?_
  refine wp_seq_k fun K102 hK102 => ?_
  refine wp_seq_k fun K103 hK103 => ?_
  refine wp_reg ?_
  obtain ⟨y104, h105, hF⟩ := bnd hF
  refine x_call en10 hA (F_law05_awake (L := L) h105 hS) (fun v ac w hR hA => ?_) rfl rfl rfl rfl rfl
  obtain ⟨rfl, hS⟩ := hR
  refine x_val hA (r_not rfl (hA.ev rfl)) (fun ac hA => ?_) rfl rfl rfl
  refine wpList_nil ?_
  refine hK103 _ _ ?_
  refine c_if hA rfl (fun hb106 => ?_) fun hb106 => ?_
  · replace hF := ift hb106 hF
    refine wp_seq_k fun K107 hK107 => ?_
    refine wp_reg ?_
    refine x_assign hA (fun ac hA => ?_) rfl rfl rfl rfl rfl
    refine wpList_nil ?_
    refine hK107 _ _ ?_
    refine wp_ret ?_
    cases hF
    refine hQ _ _ ?_
    refine lv Try.results8 hA rfl ?_
    exact ⟨rfl, hS⟩
  replace hF := iff' hb106 hF
  refine wp_skip ?_
  refine hK102 _ _ ?_
  refine wp_seq_k fun K108 hK108 => ?_
  refine wp_reg ?_
  refine x_move hA (fun ac hA => ?_) rfl rfl rfl rfl rfl
  obtain ⟨y109, h110, hF⟩ := bnd hF
  refine x_call en11 hA (F_files_New (L := L) a0 h110 hS) (fun v ac w hR hA => ?_) rfl rfl rfl rfl rfl
  obtain ⟨p111, rfl, hS⟩ := hR
  refine x_move hA (fun ac hA => ?_) rfl rfl rfl rfl rfl
  refine x_val hA (r_extract rfl (hA.ev rfl) rfl) (fun ac hA => ?_) rfl rfl rfl
  refine x_val hA (r_extract rfl (hA.ev rfl) rfl) (fun ac hA => ?_) rfl rfl rfl
  refine x_assign hA (fun ac hA => ?_) rfl rfl rfl rfl rfl
  refine x_assign hA (fun ac hA => ?_) rfl rfl rfl rfl rfl
  refine wpList_nil ?_
  refine hK108 _ _ ?_
  refine wp_seq_k fun K112 hK112 => ?_
  refine wp_seq_k fun K113 hK113 => ?_
  have hj1 : ∀ (b115 : Bool), law05_FilesPlays_j1 a0 a1 y109 b115 = some y → ∀ (ac : Act) (w : World), FR 284 [] ac [(0, .int .i64 a0), (1, .slice A1 n1 c1), (5, .pointer p111), (6, .int .i64 y109.2), (34, .bool b115)] → SH r (optP (obj68) p111 y109.1 :: L) w → K113 ac w := by
    intro b115 hF ac w hA hS
    unfold law05_FilesPlays_j1 at hF
    refine hK113 _ _ ?_
    refine c_if hA rfl (fun hb116 => ?_) fun hb116 => ?_
    · replace hF := ift hb116 hF
      refine wp_seq_k fun K117 hK117 => ?_
      refine wp_reg ?_
      refine x_move hA (fun ac hA => ?_) rfl rfl rfl rfl rfl
      refine x_val hA (r_eqI rfl (hA.ev rfl) (hA.ev rfl)) (fun ac hA => ?_) rfl rfl rfl
      refine x_move hA (fun ac hA => ?_) rfl rfl rfl rfl rfl
      refine bcase (b := y109.2 == 1) (fun hb118 => ?_) fun hb118 => ?_
      · replace hF := ift hb118 hF
        refine x_on hb118 hA ?_ rfl rfl rfl
        refine x_move hA (fun ac hA => ?_) rfl rfl rfl rfl rfl
        refine x_on hb118 hA ?_ rfl rfl rfl
        have hpo := hS.optNone 0 rfl
        refine x_val hA (hpo ▸ r_eqNilP Try.underlying24 rfl (hA.ev rfl) (hA.ev rfl)) (fun ac hA => ?_) rfl rfl rfl
        refine x_pickt hb118 hA (fun ac hA => ?_) rfl rfl rfl rfl rfl rfl
        refine x_assign hA (fun ac hA => ?_) rfl rfl rfl rfl rfl
        refine wpList_nil ?_
        refine hK117 _ _ ?_
        refine wp_ret ?_
        replace hS := hS.drop 0
        cases hF
        refine hQ _ _ ?_
        refine lv Try.results8 hA rfl ?_
        exact ⟨rfl, hS⟩
      replace hF := iff' hb118 hF
      refine x_off hb118 hA (fun ac hA => ?_) rfl rfl rfl rfl rfl
      refine x_off hb118 hA (fun ac hA => ?_) rfl rfl rfl rfl rfl
      refine x_pickf hb118 hA (fun ac hA => ?_) rfl rfl rfl rfl rfl rfl
      refine x_assign hA (fun ac hA => ?_) rfl rfl rfl rfl rfl
      refine wpList_nil ?_
      refine hK117 _ _ ?_
      refine wp_ret ?_
      replace hS := hS.drop 0
      cases hF
      refine hQ _ _ ?_
      refine lv Try.results8 hA rfl ?_
      exact ⟨rfl, hS⟩
    replace hF := iff' hb116 hF
    refine wp_skip ?_
    refine hK112 _ _ ?_
    refine wp_seq_k fun K119 hK119 => ?_
    refine wp_reg ?_
    refine x_move hA (fun ac hA => ?_) rfl rfl rfl rfl rfl
    refine x_val (v := .agg #[.slice none 0 0, .int .i64 a0, .int .i64 0, .bool false, .int .i64 0]) hA (r_build (ps := #[(1, .int .i64 a0)]) rfl (mapev2 hA rfl) (fun w => by kernel_rfl)) (fun ac hA => ?_) rfl rfl rfl
    refine x_box hA hS (fun g120 ac w hS hA => ?_) rfl rfl rfl rfl rfl rfl
    refine x_assign hA (fun ac hA => ?_) rfl rfl rfl rfl rfl
    refine wpList_nil ?_
    refine hK119 _ _ ?_
    refine wp_seq_k fun K121 hK121 => ?_
    refine wp_seq_k fun K13390 hK13390 => ?_
    refine wp_reg ?_
    refine x_assign hA (fun ac hA => ?_) rfl rfl rfl rfl rfl
    refine wpList_nil ?_
    refine hK13390 _ _ ?_
    refine wp_block_k fun Kx13391 hKx13391 => ?_
    have hb1 : ∀ (o20020 : (Option S68)) (l20021 : (List S62)) (x20025 : Int) (x20026 : Int) (b20027 : Bool) (x20028 : Int), law05_FilesPlays_b1 o20020 l20021 x20025 x20026 b20027 x20028 = some y → ∀ (A20022 : Option Addr) (n20023 : Nat) (c20024 : Nat) (ac : Act) (w : World), FR 284 [] ac [(5, .pointer p111), (7, .pointer (some ⟨g120, 0, none⟩))] → SH r (blk g120 53 [.slice A20022 n20023 c20024, .int .i64 x20025, .int .i64 x20026, .bool b20027, .int .i64 x20028] :: optP (obj68) p111 o20020 :: own k62 62 A20022 n20023 c20024 l20021 :: L) w → Kx13391 ac w := by
      intro o20020 l20021 x20025 x20026 b20027 x20028 hF A20022 n20023 c20024 ac w hA hS
      unfold law05_FilesPlays_b1 at hF
      refine hKx13391 _ _ ?_
      refine hK121 _ _ ?_
      refine wp_seq_k fun K20029 hK20029 => ?_
      refine wp_reg ?_
      refine x_move hA (fun ac hA => ?_) rfl rfl rfl rfl rfl
      replace hS := hS.pk 1
      obtain ⟨y20030, h20031, hF⟩ := bnd hF
      refine x_call en19 hA (F_files_Store_Restart (L := blk g120 53 [.slice A20022 n20023 c20024, .int .i64 x20025, .int .i64 x20026, .bool b20027, .int .i64 x20028] :: own k62 62 A20022 n20023 c20024 l20021 :: L) o20020 [] p111 none 0 0 h20031 RdL.nil hS) (fun v ac w hR hA => ?_) rfl rfl rfl rfl rfl
      obtain ⟨rfl, hS⟩ := hR
      refine wpList_nil ?_
      refine hK20029 _ _ ?_
      refine wp_seq_k fun K20032 hK20032 => ?_
      refine wp_reg ?_
      refine x_move hA (fun ac hA => ?_) rfl rfl rfl rfl rfl
      replace hS := hS.pk 2
      replace hS := hS.pk 2
      replace hS := obj53_mk (x := (⟨l20021, x20025, x20026, b20027, x20028⟩ : S53)) hS
      obtain ⟨y20033, h20034, hF⟩ := bnd hF
      refine x_call en28 hA (F_r05_Store_Restart (L := optP (obj68) p111 y20030.2 :: L) (⟨l20021, x20025, x20026, b20027, x20028⟩ : S53) [] g120 none 0 0 h20034 RdL.nil hS) (fun v ac w hR hA => ?_) rfl rfl rfl rfl rfl
      obtain ⟨rfl, hS⟩ := hR
      obtain ⟨A20035, n20036, c20037, hS⟩ := obj53_open hS
      refine wpList_nil ?_
      refine hK20032 _ _ ?_
      refine wp_seq_k fun K20038 hK20038 => ?_
      refine wp_seq_k fun K20200 hK20200 => ?_
      refine wp_reg ?_
      refine x_assign hA (fun ac hA => ?_) rfl rfl rfl rfl rfl
      refine wpList_nil ?_
      refine hK20200 _ _ ?_
      refine wp_block_k fun Kx20201 hKx20201 => ?_
      have hb2 : law05_FilesPlays_b2 = some y → ∀ (ac : Act) (w : World), FR 284 [] ac [] → SH r (L) w → Kx20201 ac w := by
        intro hF ac w hA hS
        unfold law05_FilesPlays_b2 at hF
        refine hKx20201 _ _ ?_
        refine hK20038 _ _ ?_
        refine wp_seq_k fun K20281 hK20281 => ?_
        refine wp_reg ?_
        refine x_assign hA (fun ac hA => ?_) rfl rfl rfl rfl rfl
        refine wpList_nil ?_
        refine hK20281 _ _ ?_
        refine wp_ret ?_
        cases hF
        refine hQ _ _ ?_
        refine lv Try.results8 hA rfl ?_
        exact ⟨rfl, hS⟩
      obtain ⟨t20334, hl20334, hF⟩ := bnd hF
      have hR20334 := hF
      have hx20334_5 : (.inl ()) = t20334 → ∀ (ac : Act) (w : World), FR 284 [] ac [] → SH r (L) w → Kx20201 ac w := by
        intro ht ac w hA hS
        subst ht
        replace hF : law05_FilesPlays_x1_5 = some y := hF
        unfold law05_FilesPlays_x1_5 at hF
        exact hb2 hF ac w (hA.sub _ rfl) hS
      replace hS := hS.pk 1
      replace hS := hS.pk 2
      replace hS := hS.pk 2
      refine wp_loop_fn hl20334 (fun s ac w => FR 284 [] ac [(5, .pointer p111), (7, .pointer (some ⟨g120, 0, none⟩)), (19, .int .i64 s)] ∧ SH r (blk g120 53 [.slice A20035 n20036 c20037, .int .i64 y20033.f1, .int .i64 y20033.f2, .bool y20033.f3, .int .i64 y20033.f4] :: optP (obj68) p111 y20030.2 :: own k62 62 A20035 n20036 c20037 y20033.f0 :: L) w) ⟨hA.sub _ rfl, hS⟩ ?_
      intro N20334 s20334 o20334 hF N20334_ T20334_ ac w hLab
      obtain ⟨x20308, rfl⟩ : ∃ q, q = s20334 := ⟨_, rfl⟩
      replace hF : law05_FilesPlays_l1 y20030 y20033 x20308 = some o20334 := hF
      unfold law05_FilesPlays_l1 at hF
      try dsimp only at hLab
      obtain ⟨hA, hS⟩ := hLab
      refine wp_seq_k fun K20336 hK20336 => ?_
      refine wp_seq_k fun K20337 hK20337 => ?_
      refine wp_reg ?_
      refine x_move hA (fun ac hA => ?_) rfl rfl rfl rfl rfl
      refine x_move hA (fun ac hA => ?_) rfl rfl rfl rfl rfl
      refine x_val hA (r_nilCheck rfl (hA.ev rfl)) (fun ac hA => ?_) rfl rfl rfl
      refine x_fab fa53_0 hA (fun ac hA => ?_) rfl rfl rfl rfl rfl
      refine x_ld Try.underlying51 (hS.cell 0 rfl 0 _ rfl) hA (fun ac hA => ?_) rfl rfl rfl rfl rfl rfl
      refine x_len Try.underlying51 (hS.rd 2 rfl).2.1 hA (fun ac hA => ?_) rfl rfl rfl rfl rfl
      refine x_val hA (r_ltI rfl (hA.ev rfl) (hA.ev rfl)) (fun ac hA => ?_) rfl rfl rfl
      refine wpList_nil ?_
      refine hK20337 _ _ ?_
      refine c_if hA rfl (fun hb20338 => ?_) fun hb20338 => ?_
      · replace hF := ift hb20338 hF
        refine wp_skip ?_
        refine hK20336 _ _ ?_
        refine wp_seq_k fun K20339 hK20339 => ?_
        refine wp_block_k fun Kx20340 hKx20340 => ?_
        refine wp_seq_k fun K20341 hK20341 => ?_
        refine wp_reg ?_
        refine x_move hA (fun ac hA => ?_) rfl rfl rfl rfl rfl
        refine x_move hA (fun ac hA => ?_) rfl rfl rfl rfl rfl
        refine x_val hA (r_nilCheck rfl (hA.ev rfl)) (fun ac hA => ?_) rfl rfl rfl
        refine x_fab fa53_0 hA (fun ac hA => ?_) rfl rfl rfl rfl rfl
        refine x_ld Try.underlying51 (hS.cell 0 rfl 0 _ rfl) hA (fun ac hA => ?_) rfl rfl rfl rfl rfl rfl
        refine x_move hA (fun ac hA => ?_) rfl rfl rfl rfl rfl
        obtain ⟨x20342, h20343, hF⟩ := bnd hF
        refine x_ia Try.underlying51 sz62 (hS.rd 2 rfl) h20343 hA (fun ac hA => ?_) rfl rfl rfl rfl rfl rfl
        refine x_fae (m := x20308.toNat * 3) fa62_0 hA (fun ac hA => ?_) rfl rfl rfl rfl rfl
        obtain ⟨cs, hV, hc20344⟩ := el (hS.rd 2 rfl) h20343
        obtain rfl := hV
        refine x_ld Try.underlying9 (hc20344 0 _ rfl) hA (fun ac hA => ?_) rfl rfl rfl rfl rfl rfl
        replace hS := hS.pk 1
        obtain ⟨y20345, h20346, hF⟩ := bnd hF
        refine x_call en13 hA (F_files_Store_Read (L := blk g120 53 [.slice A20035 n20036 c20037, .int .i64 y20033.f1, .int .i64 y20033.f2, .bool y20033.f3, .int .i64 y20033.f4] :: own k62 62 A20035 n20036 c20037 y20033.f0 :: L) y20030.2 x20342.f0 p111 h20346 hS) (fun v ac w hR hA => ?_) rfl rfl rfl rfl rfl
        obtain ⟨B20347, m20348, d20349, rfl, hS⟩ := hR
        refine x_move hA (fun ac hA => ?_) rfl rfl rfl rfl rfl
        refine x_val hA (r_extract rfl (hA.ev rfl) rfl) (fun ac hA => ?_) rfl rfl rfl
        refine x_val hA (r_extract rfl (hA.ev rfl) rfl) (fun ac hA => ?_) rfl rfl rfl
        refine x_assign hA (fun ac hA => ?_) rfl rfl rfl rfl rfl
        refine x_assign hA (fun ac hA => ?_) rfl rfl rfl rfl rfl
        refine wpList_nil ?_
        refine hK20341 _ _ ?_
        refine wp_seq_k fun K20350 hK20350 => ?_
        have hj2 : ∀ (b20353 : Bool), law05_FilesPlays_j2 x20308 b20353 = some o20334 → ∀ (ac : Act) (w : World), FR 284 [] ac [(5, .pointer p111), (7, .pointer (some ⟨g120, 0, none⟩)), (19, .int .i64 x20308), (283, .bool b20353)] → SH r (blk g120 53 [.slice A20035 n20036 c20037, .int .i64 y20033.f1, .int .i64 y20033.f2, .bool y20033.f3, .int .i64 y20033.f4] :: optP (obj68) p111 y20030.2 :: own k62 62 A20035 n20036 c20037 y20033.f0 :: L) w → K20350 ac w := by
          intro b20353 hF ac w hA hS
          unfold law05_FilesPlays_j2 at hF
          refine hK20350 _ _ ?_
          refine c_if hA rfl (fun hb20354 => ?_) fun hb20354 => ?_
          · replace hF := ift hb20354 hF
            refine wp_seq_k fun K20355 hK20355 => ?_
            refine wp_reg ?_
            refine x_assign hA (fun ac hA => ?_) rfl rfl rfl rfl rfl
            refine wpList_nil ?_
            refine hK20355 _ _ ?_
            refine wp_ret ?_
            replace hS := hS.drop 0
            replace hS := hS.drop 0
            replace hS := hS.drop 0
            cases hF
            have ht := T20334_ _ rfl
            subst ht
            replace hF := hR20334
            replace hF : some false = some y := hF
            cases hF
            refine hQ _ _ ?_
            refine lv Try.results8 hA rfl ?_
            exact ⟨rfl, hS⟩
          replace hF := iff' hb20354 hF
          refine wp_skip ?_
          refine hKx20340 _ _ ?_
          refine hK20339 _ _ ?_
          refine wp_reg ?_
          refine x_move hA (fun ac hA => ?_) rfl rfl rfl rfl rfl
          obtain ⟨x20356, h20357, hF⟩ := ltt_ hF
          refine x_val (v := .int .i64 x20356) hA (rv_i h20357 (r_add rfl (hA.ev rfl) (hA.ev rfl))) (fun ac hA => ?_) rfl rfl rfl
          refine x_assign hA (fun ac hA => ?_) rfl rfl rfl rfl rfl
          refine wpList_nil ?_
          cases hF
          exact ⟨_, N20334_ _ rfl, hA.sub _ rfl, hS⟩
        refine wp_draw [0, 1, 3, 7, 15, 7, 39, 103, 231, 7, 999, 2023, 4071, 8191, 16383] [] rfl hA hS (by kernel_rfl) (by kernel_rfl) (by kernel_rfl) (by kernel_rfl) fun w hS => ?_
        refine bcase (b := y20345.2 != 0) (fun hb20358 => ?_) fun hb20358 => ?_
        · replace hF := ift hb20358 hF
          refine ⟨[(0, .int .i64 y20345.2), (1, .bool (y20345.2 != 0)), (2, .bool (y20345.2 != 0)), (3, undef), (4, undef), (5, undef), (6, undef), (7, undef), (8, undef), (9, undef), (10, undef), (11, undef), (12, undef), (13, undef), (14, .bool true)], ?_⟩
          refine dEnd [0, 1, 2, 3, 4, 5, 6, 7, 8, 9, 10, 11, 12, 13, 14] (by kernel_rfl) ⟨pu rfl rfl [(21, .int .i64 y20345.2)] (fun ac hA => y_move hA rfl rfl) rfl rfl, pu rfl rfl [(269, .int .i64 y20345.2)] (fun ac hA => r_neI rfl (hA.ev rfl) (hA.ev rfl)) rfl rfl, pu rfl rfl [(270, .bool (y20345.2 != 0))] (fun ac hA => y_move hA rfl rfl) rfl rfl, puOff rfl rfl rfl rfl [(20, .slice B20347 m20348 d20349), (271, .bool (y20345.2 != 0))] rfl hb20358 rfl, puOff rfl rfl rfl rfl [(271, .bool (y20345.2 != 0)), (272, undef)] rfl hb20358 rfl, puOff rfl rfl rfl rfl [(7, .pointer (some ⟨g120, 0, none⟩)), (271, .bool (y20345.2 != 0))] rfl hb20358 rfl, puOff rfl rfl rfl rfl [(271, .bool (y20345.2 != 0)), (274, undef)] rfl hb20358 rfl, puOff rfl rfl rfl rfl [(271, .bool (y20345.2 != 0)), (275, undef)] rfl hb20358 rfl, puOff rfl rfl rfl rfl [(271, .bool (y20345.2 != 0)), (276, undef)] rfl hb20358 rfl, puOff rfl rfl rfl rfl [(19, .int .i64 x20308), (271, .bool (y20345.2 != 0))] rfl hb20358 rfl, puOff rfl rfl rfl rfl [(271, .bool (y20345.2 != 0)), (277, undef), (278, undef)] rfl hb20358 rfl, puOff rfl rfl rfl rfl [(271, .bool (y20345.2 != 0)), (279, undef)] rfl hb20358 rfl, puOff rfl rfl rfl rfl [(271, .bool (y20345.2 != 0)), (280, undef)] rfl hb20358 rfl, puOff rfl rfl rfl rfl [(271, .bool (y20345.2 != 0)), (273, undef), (281, undef)] rfl hb20358 rfl, pu rfl rfl [(271, .bool (y20345.2 != 0)), (282, undef)] (fun ac hA => y_pickt hb20358 hA rfl rfl rfl) rfl rfl, trivial⟩ ⟨by kernel_rfl, by kernel_rfl⟩ [(5, .pointer p111), (7, .pointer (some ⟨g120, 0, none⟩)), (19, .int .i64 x20308), (283, .bool true)] rfl (fun ac hA => ?_)
          replace hS := hS.drop 0
          replace hS := hS.pk 2
          replace hS := hS.pk 1
          replace hS := hS.pk 2
          exact hj2 true hF ac w (hA.sub _ rfl) hS
        replace hF := iff' hb20358 hF
        obtain ⟨cs, hV, hc20359⟩ := el (hS.rd 3 rfl) h20343
        obtain rfl := hV
        refine ⟨[(0, .int .i64 y20345.2), (1, .bool (y20345.2 != 0)), (2, .bool (y20345.2 != 0)), (3, .slice B20347 m20348 d20349), (4, str (bts y20345.1)), (5, .pointer (some ⟨g120, 0, none⟩)), (6, .pointer (some ⟨g120, 0, none⟩)), (7, .pointer (some ⟨g120, 0, none⟩)), (8, .slice A20035 n20036 c20037), (9, .int .i64 x20308), (10, .pointer (some (ea A20035 (x20308.toNat * 3)))), (11, .pointer (some (ea A20035 (x20308.toNat * 3 + 1)))), (12, str x20342.f1), (13, .bool (!((bts y20345.1) == x20342.f1))), (14, .bool (!((bts y20345.1) == x20342.f1)))], ?_⟩
        refine dEnd [0, 1, 2, 3, 4, 5, 6, 7, 8, 9, 10, 11, 12, 13, 14] (by kernel_rfl) ⟨pu rfl rfl [(21, .int .i64 y20345.2)] (fun ac hA => y_move hA rfl rfl) rfl rfl, pu rfl rfl [(269, .int .i64 y20345.2)] (fun ac hA => r_neI rfl (hA.ev rfl) (hA.ev rfl)) rfl rfl, pu rfl rfl [(270, .bool (y20345.2 != 0))] (fun ac hA => y_move hA rfl rfl) rfl rfl, puOn rfl rfl rfl rfl [(20, .slice B20347 m20348 d20349), (271, .bool (y20345.2 != 0))] rfl hb20358 (fun ac hA => y_move hA rfl rfl) rfl, puOn rfl rfl rfl rfl [(271, .bool (y20345.2 != 0)), (272, .slice B20347 m20348 d20349)] rfl hb20358 (fun ac hA => y_b2s Try.underlying22 Try.underlying5 Try.underlying9 (hS.rd 0 rfl) hA rfl rfl) rfl, puOn rfl rfl rfl rfl [(7, .pointer (some ⟨g120, 0, none⟩)), (271, .bool (y20345.2 != 0))] rfl hb20358 (fun ac hA => y_move hA rfl rfl) rfl, puOn rfl rfl rfl rfl [(271, .bool (y20345.2 != 0)), (274, .pointer (some ⟨g120, 0, none⟩))] rfl hb20358 (fun ac hA => r_nilCheck rfl (hA.ev rfl)) rfl, puOn rfl rfl rfl rfl [(271, .bool (y20345.2 != 0)), (275, .pointer (some ⟨g120, 0, none⟩))] rfl hb20358 (fun ac hA => y_fab fa53_0 hA rfl rfl) rfl, puOn rfl rfl rfl rfl [(271, .bool (y20345.2 != 0)), (276, .pointer (some ⟨g120, 0, none⟩))] rfl hb20358 (fun ac hA => y_ld Try.underlying51 (hS.cell 2 rfl 0 _ rfl) hA rfl rfl rfl) rfl, puOn rfl rfl rfl rfl [(19, .int .i64 x20308), (271, .bool (y20345.2 != 0))] rfl hb20358 (fun ac hA => y_move hA rfl rfl) rfl, puOn rfl rfl rfl rfl [(271, .bool (y20345.2 != 0)), (277, .slice A20035 n20036 c20037), (278, .int .i64 x20308)] rfl hb20358 (fun ac hA => y_ia Try.underlying51 sz62 (hS.rd 3 rfl) h20343 hA rfl rfl rfl) rfl, puOn rfl rfl rfl rfl [(271, .bool (y20345.2 != 0)), (279, .pointer (some (ea A20035 (x20308.toNat * 3))))] rfl hb20358 (fun ac hA => y_fae (m := x20308.toNat * 3) fa62_1 hA rfl rfl) rfl, puOn rfl rfl rfl rfl [(271, .bool (y20345.2 != 0)), (280, .pointer (some (ea A20035 (x20308.toNat * 3 + 1))))] rfl hb20358 (fun ac hA => y_ld Try.underlying9 (hc20359 1 _ rfl) hA rfl rfl rfl) rfl, puOn rfl rfl rfl rfl [(271, .bool (y20345.2 != 0)), (273, str (bts y20345.1)), (281, str x20342.f1)] rfl hb20358 (fun ac hA => r_neS rfl (hA.ev rfl) (hA.ev rfl)) rfl, pu rfl rfl [(271, .bool (y20345.2 != 0)), (282, .bool (!((bts y20345.1) == x20342.f1)))] (fun ac hA => y_pickf hb20358 hA rfl rfl rfl) rfl rfl, trivial⟩ ⟨by kernel_rfl, by kernel_rfl⟩ [(5, .pointer p111), (7, .pointer (some ⟨g120, 0, none⟩)), (19, .int .i64 x20308), (272, .slice B20347 m20348 d20349), (273, str (bts y20345.1)), (274, .pointer (some ⟨g120, 0, none⟩)), (275, .pointer (some ⟨g120, 0, none⟩)), (276, .pointer (some ⟨g120, 0, none⟩)), (277, .slice A20035 n20036 c20037), (278, .int .i64 x20308), (281, str x20342.f1), (282, .bool (!((bts y20345.1) == x20342.f1))), (283, .bool (!((bts y20345.1) == x20342.f1)))] rfl (fun ac hA => ?_)
        replace hS := hS.drop 0
        replace hS := hS.pk 2
        replace hS := hS.pk 1
        replace hS := hS.pk 2
        exact hj2 (!((bts y20345.1) == x20342.f1)) hF ac w (hA.sub _ rfl) hS
      replace hF := iff' hb20338 hF
      refine wp_exit ?_
      replace hS := hS.drop 0
      replace hS := hS.drop 0
      replace hS := hS.drop 0
      cases hF
      exact hx20334_5 (T20334_ _ rfl) ac w (hA.sub _ rfl) hS
    obtain ⟨t24790, hl24790, hF⟩ := bnd hF
    have hR24790 := hF
    have hx24790_0 : ∀ (o24782 : (Option S68)) (l24783 : (List S62)) (x24787 : Int) (x24788 : Int) (b24789 : Bool) (x24790 : Int), (.inl (o24782, l24783, x24787, x24788, b24789, x24790)) = t24790 → ∀ (A24784 : Option Addr) (n24785 : Nat) (c24786 : Nat) (ac : Act) (w : World), FR 284 [] ac [(5, .pointer p111), (7, .pointer (some ⟨g120, 0, none⟩))] → SH r (blk g120 53 [.slice A24784 n24785 c24786, .int .i64 x24787, .int .i64 x24788, .bool b24789, .int .i64 x24790] :: optP (obj68) p111 o24782 :: own k62 62 A24784 n24785 c24786 l24783 :: L) w → Kx13391 ac w := by
      intro o24782 l24783 x24787 x24788 b24789 x24790 ht A24784 n24785 c24786 ac w hA hS
      subst ht
      replace hF : law05_FilesPlays_x2_0 o24782 l24783 x24787 x24788 b24789 x24790 = some y := hF
      unfold law05_FilesPlays_x2_0 at hF
      exact hb1 o24782 l24783 x24787 x24788 b24789 x24790 hF A24784 n24785 c24786 ac w (hA.sub _ rfl) hS
    replace hS := SH.nil_own (d := k62) (e := 62) hS
    replace hS := hS.pk 2
    replace hS := hS.pk 2
    refine wp_loop_fn hl24790 (fun s ac w => ∃ (A22568 : Option Addr) (n22569 : Nat) (c22570 : Nat), FR 284 [] ac [(1, .slice A1 n1 c1), (5, .pointer p111), (7, .pointer (some ⟨g120, 0, none⟩)), (8, .int .i64 s.2.2.2.2.2.2)] ∧ SH r (blk g120 53 [.slice A22568 n22569 c22570, .int .i64 s.2.2.1, .int .i64 s.2.2.2.1, .bool s.2.2.2.2.1, .int .i64 s.2.2.2.2.2.1] :: optP (obj68) p111 s.1 :: own k62 62 A22568 n22569 c22570 s.2.1 :: L) w) ⟨none, 0, 0, hA.sub _ rfl, hS⟩ ?_
    intro N24790 s24790 o24790 hF N24790_ T24790_ ac w hLab
    obtain ⟨o22566, l22567, x22571, x22572, b22573, x22574, x22575⟩ := s24790
    replace hF : law05_FilesPlays_l2 a1 o22566 l22567 x22571 x22572 b22573 x22574 x22575 = some o24790 := hF
    unfold law05_FilesPlays_l2 at hF
    try dsimp only at hLab
    obtain ⟨A22568, n22569, c22570, hA, hS⟩ := hLab
    refine wp_seq_k fun K24792 hK24792 => ?_
    refine wp_seq_k fun K24793 hK24793 => ?_
    have hj3 : ∀ (b24795 : Bool), law05_FilesPlays_j3 a1 o22566 l22567 x22571 x22572 b22573 x22574 x22575 b24795 = some o24790 → ∀ (ac : Act) (w : World), FR 284 [] ac [(1, .slice A1 n1 c1), (5, .pointer p111), (7, .pointer (some ⟨g120, 0, none⟩)), (8, .int .i64 x22575), (51, .bool b24795)] → SH r (blk g120 53 [.slice A22568 n22569 c22570, .int .i64 x22571, .int .i64 x22572, .bool b22573, .int .i64 x22574] :: optP (obj68) p111 o22566 :: own k62 62 A22568 n22569 c22570 l22567 :: L) w → K24793 ac w := by
      intro b24795 hF ac w hA hS
      unfold law05_FilesPlays_j3 at hF
      refine hK24793 _ _ ?_
      refine c_if hA rfl (fun hb24796 => ?_) fun hb24796 => ?_
      · replace hF := ift hb24796 hF
        refine wp_skip ?_
        refine hK24792 _ _ ?_
        refine wp_seq_k fun K24797 hK24797 => ?_
        refine wp_block_k fun Kx25891 hKx25891 => ?_
        refine wp_seq_k fun K26438 hK26438 => ?_
        refine wp_reg ?_
        refine x_move hA (fun ac hA => ?_) rfl rfl rfl rfl rfl
        refine x_move hA (fun ac hA => ?_) rfl rfl rfl rfl rfl
        obtain ⟨x26439, h26440, hF⟩ := bnd hF
        refine x_ia Try.underlying42 sz45 (hS.rdl 3 ha1 rfl) h26440 hA (fun ac hA => ?_) rfl rfl rfl rfl rfl rfl
        obtain ⟨cs, hV, hc26441⟩ := el (hS.rdl 3 ha1 rfl) h26440
        obtain ⟨A26442, n26443, c26444, A26446, n26447, c26448, rfl, h26445, h26449⟩ := hV
        refine x_lda (cs := [.int .u8 x26439.f0, .int .u8 x26439.f1, .int .u8 x26439.f2, str x26439.f3, .slice A26442 n26443 c26444, .int .i64 x26439.f5, .slice A26446 n26447 c26448]) Try.underlying45 sz45 (fun j u h => by rw [ea_add]; exact hc26441 _ _ h) hA (fun ac hA => ?_) rfl rfl rfl rfl rfl rfl
        refine x_alloc (cs := [.int .u8 0, .int .u8 0, .int .u8 0, str [], .slice none 0 0, .int .i64 0, .slice none 0 0]) zr45 hA hS (fun g26450 ac w hS hA => ?_) rfl rfl rfl rfl rfl
        refine x_stb 0 sz45 hA hS rfl (fun  ac w hS hA => ?_) rfl rfl rfl rfl rfl rfl rfl rfl
        refine wpList_nil ?_
        refine hK26438 _ _ ?_
        refine wp_seq_k fun K26451 hK26451 => ?_
        refine wp_seq_k fun K26452 hK26452 => ?_
        refine wp_reg ?_
        refine x_fab fa45_4 hA (fun ac hA => ?_) rfl rfl rfl rfl rfl
        refine x_ld Try.underlying22 (hS.cell 0 rfl 4 _ rfl) hA (fun ac hA => ?_) rfl rfl rfl rfl rfl rfl
        refine x_len Try.underlying22 (hS.rdl 4 (h26445.rdl qz hZ) rfl).2.1 hA (fun ac hA => ?_) rfl rfl rfl rfl rfl
        refine x_val hA (r_gtI rfl (hA.ev rfl) (hA.ev rfl)) (fun ac hA => ?_) rfl rfl rfl
        refine wpList_nil ?_
        refine hK26452 _ _ ?_
        refine c_if hA rfl (fun hb26453 => ?_) fun hb26453 => ?_
        · replace hF := ift hb26453 hF
          refine wp_seq_k fun K26454 hK26454 => ?_
          refine wp_reg ?_
          refine x_assign hA (fun ac hA => ?_) rfl rfl rfl rfl rfl
          refine wpList_nil ?_
          refine hK26454 _ _ ?_
          refine wp_ret ?_
          replace hS := hS.drop 0
          replace hS := hS.drop 0
          replace hS := hS.drop 0
          replace hS := hS.drop 0
          cases hF
          have ht := T24790_ _ rfl
          subst ht
          replace hF := hR24790
          replace hF : some true = some y := hF
          cases hF
          refine hQ _ _ ?_
          refine lv Try.results8 hA rfl ?_
          exact ⟨rfl, hS⟩
        replace hF := iff' hb26453 hF
        refine wp_skip ?_
        refine hK26451 _ _ ?_
        refine wp_seq_k fun K26455 hK26455 => ?_
        refine wp_reg ?_
        refine x_lda (ad := ⟨g26450, 0, none⟩) (cs := [.int .u8 x26439.f0, .int .u8 x26439.f1, .int .u8 x26439.f2, str x26439.f3, .slice A26442 n26443 c26444, .int .i64 x26439.f5, .slice A26446 n26447 c26448]) Try.underlying45 sz45 (fun j u h => by rw [add_mk, Nat.zero_add]; exact hS.cell 0 rfl j u h) hA (fun ac hA => ?_) rfl rfl rfl rfl rfl rfl
        obtain ⟨y26456, h26457, hF⟩ := bnd hF
        refine x_call en20 hA (F_law05_Act_names (L := blk g26450 45 [.int .u8 x26439.f0, .int .u8 x26439.f1, .int .u8 x26439.f2, str x26439.f3, .slice A26442 n26443 c26444, .int .i64 x26439.f5, .slice A26446 n26447 c26448] :: blk g120 53 [.slice A22568 n22569 c22570, .int .i64 x22571, .int .i64 x22572, .bool b22573, .int .i64 x22574] :: optP (obj68) p111 o22566 :: own k62 62 A22568 n22569 c22570 l22567 :: L) x26439 A26442 n26443 c26444 A26446 n26447 c26448 h26457 (qz + 4) hZ h26445 h26449 hS) (fun v ac w hR hA => ?_) rfl rfl rfl rfl rfl
        obtain ⟨rfl, hS⟩ := hR
        refine x_move hA (fun ac hA => ?_) rfl rfl rfl rfl rfl
        refine x_val hA (r_extract rfl (hA.ev rfl) rfl) (fun ac hA => ?_) rfl rfl rfl
        refine x_val hA (r_extract rfl (hA.ev rfl) rfl) (fun ac hA => ?_) rfl rfl rfl
        refine x_assign hA (fun ac hA => ?_) rfl rfl rfl rfl rfl
        refine x_assign hA (fun ac hA => ?_) rfl rfl rfl rfl rfl
        refine wpList_nil ?_
        refine hK26455 _ _ ?_
        refine wp_seq_k fun K26458 hK26458 => ?_
        refine wp_reg ?_
        refine x_assign hA (fun ac hA => ?_) rfl rfl rfl rfl rfl
        refine wpList_nil ?_
        refine hK26458 _ _ ?_
        refine wp_seq_k fun K26459 hK26459 => ?_
        refine wp_seq_k fun K26639 hK26639 => ?_
        refine wp_reg ?_
        refine x_fab fa45_0 hA (fun ac hA => ?_) rfl rfl rfl rfl rfl
        refine x_ld Try.underlying5 (hS.cell 0 rfl 0 _ rfl) hA (fun ac hA => ?_) rfl rfl rfl rfl rfl rfl
        obtain ⟨x26640, h26641, hF⟩ := ltt_ hF
        refine x_val (v := .int .u8 x26640) hA (rv_i h26641 (r_rem rfl (hA.ev rfl) (hA.ev rfl) (by decide))) (fun ac hA => ?_) rfl rfl rfl
        refine wpList_nil ?_
        refine hK26639 _ _ ?_
        refine wp_block_k fun Kx26642 hKx26642 => ?_
        have hb3 : ∀ (o26725 : (Option S68)) (l26726 : (List S62)) (x26730 : Int) (x26731 : Int) (b26732 : Bool) (x26733 : Int) (b26734 : Bool), law05_FilesPlays_b3 x22575 y26456 o26725 l26726 x26730 x26731 b26732 x26733 b26734 = some o24790 → ∀ (A26727 : Option Addr) (n26728 : Nat) (c26729 : Nat) (ac : Act) (w : World), FR 284 [] ac [(1, .slice A1 n1 c1), (5, .pointer p111), (7, .pointer (some ⟨g120, 0, none⟩)), (8, .int .i64 x22575), (10, str y26456.1), (11, str y26456.2), (12, .bool b26734)] → SH r (blk g120 53 [.slice A26727 n26728 c26729, .int .i64 x26730, .int .i64 x26731, .bool b26732, .int .i64 x26733] :: optP (obj68) p111 o26725 :: own k62 62 A26727 n26728 c26729 l26726 :: L) w → Kx26642 ac w := by
          intro o26725 l26726 x26730 x26731 b26732 x26733 b26734 hF A26727 n26728 c26729 ac w hA hS
          unfold law05_FilesPlays_b3 at hF
          refine hKx26642 _ _ ?_
          refine hK26459 _ _ ?_
          refine wp_seq_k fun K26735 hK26735 => ?_
          refine wp_reg ?_
          refine x_move hA (fun ac hA => ?_) rfl rfl rfl rfl rfl
          refine x_move hA (fun ac hA => ?_) rfl rfl rfl rfl rfl
          replace hS := hS.pk 1
          obtain ⟨y26736, h26737, hF⟩ := bnd hF
          refine x_call en13 hA (F_files_Store_Read (L := blk g120 53 [.slice A26727 n26728 c26729, .int .i64 x26730, .int .i64 x26731, .bool b26732, .int .i64 x26733] :: own k62 62 A26727 n26728 c26729 l26726 :: L) o26725 y26456.2 p111 h26737 hS) (fun v ac w hR hA => ?_) rfl rfl rfl rfl rfl
          obtain ⟨B26738, m26739, d26740, rfl, hS⟩ := hR
          refine x_move hA (fun ac hA => ?_) rfl rfl rfl rfl rfl
          refine x_val hA (r_extract rfl (hA.ev rfl) rfl) (fun ac hA => ?_) rfl rfl rfl
          refine x_val hA (r_extract rfl (hA.ev rfl) rfl) (fun ac hA => ?_) rfl rfl rfl
          refine x_assign hA (fun ac hA => ?_) rfl rfl rfl rfl rfl
          refine x_assign hA (fun ac hA => ?_) rfl rfl rfl rfl rfl
          refine wpList_nil ?_
          refine hK26735 _ _ ?_
          refine wp_seq_k fun K26741 hK26741 => ?_
          refine wp_reg ?_
          refine x_move hA (fun ac hA => ?_) rfl rfl rfl rfl rfl
          refine x_move hA (fun ac hA => ?_) rfl rfl rfl rfl rfl
          replace hS := hS.pk 3
          replace hS := hS.pk 3
          obtain ⟨y26742, h26743, hF⟩ := bnd hF
          refine x_call en30 hA (F_r05_Store_Read (L := own (kI .u8) 5 B26738 m26739 d26740 y26736.1 :: optP (obj68) p111 o26725 :: L) (⟨l26726, x26730, x26731, b26732, x26733⟩ : S53) y26456.2 g120 A26727 n26728 c26729 h26743 hS) (fun v ac w hR hA => ?_) rfl rfl rfl rfl rfl
          obtain ⟨rfl, hS⟩ := hR
          refine x_move hA (fun ac hA => ?_) rfl rfl rfl rfl rfl
          refine x_val hA (r_extract rfl (hA.ev rfl) rfl) (fun ac hA => ?_) rfl rfl rfl
          refine x_val hA (r_extract rfl (hA.ev rfl) rfl) (fun ac hA => ?_) rfl rfl rfl
          refine x_assign hA (fun ac hA => ?_) rfl rfl rfl rfl rfl
          refine x_assign hA (fun ac hA => ?_) rfl rfl rfl rfl rfl
          refine wpList_nil ?_
          refine hK26741 _ _ ?_
          refine wp_seq_k fun K26744 hK26744 => ?_
          refine wp_reg ?_
          refine x_move hA (fun ac hA => ?_) rfl rfl rfl rfl rfl
          replace hS := hS.pk 3
          obtain ⟨y26745, h26746, hF⟩ := bnd hF
          refine x_call en14 hA (F_files_Store_List (L := blk g120 53 [.slice A26727 n26728 c26729, .int .i64 x26730, .int .i64 x26731, .bool b26732, .int .i64 x26733] :: own k62 62 A26727 n26728 c26729 l26726 :: own (kI .u8) 5 B26738 m26739 d26740 y26736.1 :: L) o26725 p111 h26746 hS) (fun v ac w hR hA => ?_) rfl rfl rfl rfl rfl
          obtain ⟨B26747, m26748, d26749, rfl, hS⟩ := hR
          refine x_assign hA (fun ac hA => ?_) rfl rfl rfl rfl rfl
          refine wpList_nil ?_
          refine hK26744 _ _ ?_
          refine wp_seq_k fun K26750 hK26750 => ?_
          refine wp_seq_k fun K26751 hK26751 => ?_
          have hj4 : ∀ (b26771 : Bool), law05_FilesPlays_j4 x22575 o26725 l26726 x26730 x26731 b26732 x26733 y26745 b26771 = some o24790 → ∀ (ac : Act) (w : World), FR 284 [] ac [(1, .slice A1 n1 c1), (5, .pointer p111), (7, .pointer (some ⟨g120, 0, none⟩)), (8, .int .i64 x22575), (17, .slice B26747 m26748 d26749), (223, .bool b26771)] → SH r (blk g120 53 [.slice A26727 n26728 c26729, .int .i64 x26730, .int .i64 x26731, .bool b26732, .int .i64 x26733] :: optP (obj68) p111 o26725 :: own k62 62 A26727 n26728 c26729 l26726 :: own kS 9 B26747 m26748 d26749 y26745 :: L) w → K26751 ac w := by
            intro b26771 hF ac w hA hS
            unfold law05_FilesPlays_j4 at hF
            refine hK26751 _ _ ?_
            refine c_if hA rfl (fun hb26772 => ?_) fun hb26772 => ?_
            · replace hF := ift hb26772 hF
              refine wp_seq_k fun K26773 hK26773 => ?_
              refine wp_reg ?_
              refine x_assign hA (fun ac hA => ?_) rfl rfl rfl rfl rfl
              refine wpList_nil ?_
              refine hK26773 _ _ ?_
              refine wp_ret ?_
              replace hS := hS.drop 0
              replace hS := hS.drop 0
              replace hS := hS.drop 0
              replace hS := hS.drop 0
              cases hF
              have ht := T24790_ _ rfl
              subst ht
              replace hF := hR24790
              replace hF : some false = some y := hF
              cases hF
              refine hQ _ _ ?_
              refine lv Try.results8 hA rfl ?_
              exact ⟨rfl, hS⟩
            replace hF := iff' hb26772 hF
            refine wp_skip ?_
            refine hK26750 _ _ ?_
            refine wp_seq_k fun K26774 hK26774 => ?_
            refine wp_reg ?_
            refine x_assign hA (fun ac hA => ?_) rfl rfl rfl rfl rfl
            refine wpList_nil ?_
            refine hK26774 _ _ ?_
            refine wp_block_k fun Kx26775 hKx26775 => ?_
            have hb4 : law05_FilesPlays_b4 x22575 o26725 l26726 x26730 x26731 b26732 x26733 = some o24790 → ∀ (ac : Act) (w : World), FR 284 [] ac [(1, .slice A1 n1 c1), (5, .pointer p111), (7, .pointer (some ⟨g120, 0, none⟩)), (8, .int .i64 x22575)] → SH r (blk g120 53 [.slice A26727 n26728 c26729, .int .i64 x26730, .int .i64 x26731, .bool b26732, .int .i64 x26733] :: optP (obj68) p111 o26725 :: own k62 62 A26727 n26728 c26729 l26726 :: L) w → Kx26775 ac w := by
              intro hF ac w hA hS
              unfold law05_FilesPlays_b4 at hF
              refine hKx26775 _ _ ?_
              refine hKx25891 _ _ ?_
              refine hK24797 _ _ ?_
              refine wp_reg ?_
              refine x_move hA (fun ac hA => ?_) rfl rfl rfl rfl rfl
              obtain ⟨x26828, h26829, hF⟩ := ltt_ hF
              refine x_val (v := .int .i64 x26828) hA (rv_i h26829 (r_add rfl (hA.ev rfl) (hA.ev rfl))) (fun ac hA => ?_) rfl rfl rfl
              refine x_assign hA (fun ac hA => ?_) rfl rfl rfl rfl rfl
              refine wpList_nil ?_
              cases hF
              exact ⟨_, N24790_ _ rfl, A26727, n26728, c26729, hA.sub _ rfl, hS⟩
            obtain ⟨t26864, hl26864, hF⟩ := bnd hF
            have hR26864 := hF
            have hx26864_3 : (.inl ()) = t26864 → ∀ (ac : Act) (w : World), FR 284 [] ac [(1, .slice A1 n1 c1), (5, .pointer p111), (7, .pointer (some ⟨g120, 0, none⟩)), (8, .int .i64 x22575)] → SH r (blk g120 53 [.slice A26727 n26728 c26729, .int .i64 x26730, .int .i64 x26731, .bool b26732, .int .i64 x26733] :: optP (obj68) p111 o26725 :: own k62 62 A26727 n26728 c26729 l26726 :: L) w → Kx26775 ac w := by
              intro ht ac w hA hS
              subst ht
              replace hF : law05_FilesPlays_x3_3 x22575 o26725 l26726 x26730 x26731 b26732 x26733 = some o24790 := hF
              unfold law05_FilesPlays_x3_3 at hF
              exact hb4 hF ac w (hA.sub _ rfl) hS
            refine wp_loop_fn hl26864 (fun s ac w => FR 284 [] ac [(1, .slice A1 n1 c1), (5, .pointer p111), (7, .pointer (some ⟨g120, 0, none⟩)), (8, .int .i64 x22575), (17, .slice B26747 m26748 d26749), (18, .int .i64 s)] ∧ SH r (blk g120 53 [.slice A26727 n26728 c26729, .int .i64 x26730, .int .i64 x26731, .bool b26732, .int .i64 x26733] :: optP (obj68) p111 o26725 :: own k62 62 A26727 n26728 c26729 l26726 :: own kS 9 B26747 m26748 d26749 y26745 :: L) w) ⟨hA.sub _ rfl, hS⟩ ?_
            intro N26864 s26864 o26864 hF N26864_ T26864_ ac w hLab
            obtain ⟨x26847, rfl⟩ : ∃ q, q = s26864 := ⟨_, rfl⟩
            replace hF : law05_FilesPlays_l3 l26726 y26745 x26847 = some o26864 := hF
            unfold law05_FilesPlays_l3 at hF
            try dsimp only at hLab
            obtain ⟨hA, hS⟩ := hLab
            refine wp_seq_k fun K26866 hK26866 => ?_
            refine wp_seq_k fun K26867 hK26867 => ?_
            refine wp_reg ?_
            refine x_move hA (fun ac hA => ?_) rfl rfl rfl rfl rfl
            refine x_move hA (fun ac hA => ?_) rfl rfl rfl rfl rfl
            refine x_len Try.underlying31 (hS.rd 3 rfl).2.1 hA (fun ac hA => ?_) rfl rfl rfl rfl rfl
            refine x_val hA (r_ltI rfl (hA.ev rfl) (hA.ev rfl)) (fun ac hA => ?_) rfl rfl rfl
            refine wpList_nil ?_
            refine hK26867 _ _ ?_
            refine c_if hA rfl (fun hb26868 => ?_) fun hb26868 => ?_
            · replace hF := ift hb26868 hF
              refine wp_skip ?_
              refine hK26866 _ _ ?_
              refine wp_seq_k fun K26869 hK26869 => ?_
              refine wp_block_k fun Kx26870 hKx26870 => ?_
              refine wp_seq_k fun K26871 hK26871 => ?_
              refine wp_draw [0, 0, 3, 7, 0, 16, 48, 112, 0, 496, 1008, 2032, 4095] [] rfl hA hS (by kernel_rfl) (by kernel_rfl) (by kernel_rfl) (by kernel_rfl) fun w hS => ?_
              obtain ⟨x26872, h26873, hF⟩ := bnd hF
              obtain ⟨cs, hV, hc26874⟩ := el (hS.rd 3 rfl) h26873
              obtain rfl := hV
              obtain ⟨x26875, h26876, hF⟩ := bnd hF
              obtain ⟨cs, hV, hc26877⟩ := el (hS.rd 2 rfl) h26876
              obtain rfl := hV
              refine ⟨[(0, .slice B26747 m26748 d26749), (1, .int .i64 x26847), (2, .pointer (some (ea B26747 (x26847.toNat * 1)))), (3, str x26872), (4, .pointer (some ⟨g120, 0, none⟩)), (5, .pointer (some ⟨g120, 0, none⟩)), (6, .pointer (some ⟨g120, 0, none⟩)), (7, .slice A26727 n26728 c26729), (8, .int .i64 x26847), (9, .pointer (some (ea A26727 (x26847.toNat * 3)))), (10, .pointer (some (ea A26727 (x26847.toNat * 3)))), (11, str x26875.f0), (12, .bool (!(x26872 == x26875.f0)))], ?_⟩
              refine dEnd [0, 1, 2, 3, 4, 5, 6, 7, 8, 9, 10, 11, 12] (by kernel_rfl) ⟨pu rfl rfl [(17, .slice B26747 m26748 d26749)] (fun ac hA => y_move hA rfl rfl) rfl rfl, pu rfl rfl [(18, .int .i64 x26847)] (fun ac hA => y_move hA rfl rfl) rfl rfl, pu rfl rfl [(230, .slice B26747 m26748 d26749), (231, .int .i64 x26847)] (fun ac hA => y_ia Try.underlying31 sz9 (hS.rd 3 rfl) h26873 hA rfl rfl rfl) rfl rfl, pu rfl rfl [(232, .pointer (some (ea B26747 (x26847.toNat * 1))))] (fun ac hA => y_ld Try.underlying9 (hc26874 0 _ rfl) hA rfl rfl rfl) rfl rfl, pu rfl rfl [(7, .pointer (some ⟨g120, 0, none⟩))] (fun ac hA => y_move hA rfl rfl) rfl rfl, pu rfl rfl [(234, .pointer (some ⟨g120, 0, none⟩))] (fun ac hA => r_nilCheck rfl (hA.ev rfl)) rfl rfl, pu rfl rfl [(235, .pointer (some ⟨g120, 0, none⟩))] (fun ac hA => y_fab fa53_0 hA rfl rfl) rfl rfl, pu rfl rfl [(236, .pointer (some ⟨g120, 0, none⟩))] (fun ac hA => y_ld Try.underlying51 (hS.cell 0 rfl 0 _ rfl) hA rfl rfl rfl) rfl rfl, pu rfl rfl [(18, .int .i64 x26847)] (fun ac hA => y_move hA rfl rfl) rfl rfl, pu rfl rfl [(237, .slice A26727 n26728 c26729), (238, .int .i64 x26847)] (fun ac hA => y_ia Try.underlying51 sz62 (hS.rd 2 rfl) h26876 hA rfl rfl rfl) rfl rfl, pu rfl rfl [(239, .pointer (some (ea A26727 (x26847.toNat * 3))))] (fun ac hA => y_fae (m := x26847.toNat * 3) fa62_0 hA rfl rfl) rfl rfl, pu rfl rfl [(240, .pointer (some (ea A26727 (x26847.toNat * 3))))] (fun ac hA => y_ld Try.underlying9 (hc26877 0 _ rfl) hA rfl rfl rfl) rfl rfl, pu rfl rfl [(233, str x26872), (241, str x26875.f0)] (fun ac hA => r_neS rfl (hA.ev rfl) (hA.ev rfl)) rfl rfl, trivial⟩ ⟨by kernel_rfl, by kernel_rfl⟩ [(1, .slice A1 n1 c1), (5, .pointer p111), (7, .pointer (some ⟨g120, 0, none⟩)), (8, .int .i64 x22575), (17, .slice B26747 m26748 d26749), (18, .int .i64 x26847), (242, .bool (!(x26872 == x26875.f0)))] rfl (fun ac hA => ?_)
              refine hK26871 _ _ ?_
              refine c_if hA rfl (fun hb26878 => ?_) fun hb26878 => ?_
              · replace hF := ift hb26878 hF
                refine wp_seq_k fun K26879 hK26879 => ?_
                refine wp_reg ?_
                refine x_assign hA (fun ac hA => ?_) rfl rfl rfl rfl rfl
                refine wpList_nil ?_
                refine hK26879 _ _ ?_
                refine wp_ret ?_
                replace hS := hS.drop 0
                replace hS := hS.drop 0
                replace hS := hS.drop 0
                replace hS := hS.drop 0
                cases hF
                have ht := T26864_ _ rfl
                subst ht
                replace hF := hR26864
                replace hF : some (.inr (.inr false)) = some o24790 := hF
                cases hF
                have ht := T24790_ _ rfl
                subst ht
                replace hF := hR24790
                replace hF : some false = some y := hF
                cases hF
                refine hQ _ _ ?_
                refine lv Try.results8 hA rfl ?_
                exact ⟨rfl, hS⟩
              replace hF := iff' hb26878 hF
              refine wp_skip ?_
              refine hKx26870 _ _ ?_
              refine hK26869 _ _ ?_
              refine wp_reg ?_
              refine x_move hA (fun ac hA => ?_) rfl rfl rfl rfl rfl
              obtain ⟨x26880, h26881, hF⟩ := ltt_ hF
              refine x_val (v := .int .i64 x26880) hA (rv_i h26881 (r_add rfl (hA.ev rfl) (hA.ev rfl))) (fun ac hA => ?_) rfl rfl rfl
              refine x_assign hA (fun ac hA => ?_) rfl rfl rfl rfl rfl
              refine wpList_nil ?_
              cases hF
              exact ⟨_, N26864_ _ rfl, hA.sub _ rfl, hS⟩
            replace hF := iff' hb26868 hF
            refine wp_exit ?_
            replace hS := hS.drop 3
            cases hF
            exact hx26864_3 (T26864_ _ rfl) ac w (hA.sub _ rfl) hS
          refine wp_draw [0, 1, 3, 7, 7, 31, 63, 127, 255, 511, 255, 2047, 4095, 8191, 16383, 32767, 16383, 81919, 212991, 475135, 999423, 2097151, 4194303, 8388607, 16777215, 33554431, 16777215, 134217727, 268435455, 536870911, 1073741823, 2147483647, 4294967295, 2147483647, 10737418239, 27917287423, 62277025791, 137438953471, 274877906943, 549755813887, 1099511627775, 2199023255551, 1099511627775, 5497558138879, 14293651161087, 31885837205503, 70368744177663, 140737488355327, 281474976710655, 562949953421311, 1125899906842623, 562949953421311, 4503599627370495, 9007199254740991, 18014398509481983] [25, 27, 32, 41, 50, 52] rfl hA hS (by kernel_rfl) (by kernel_rfl) (by kernel_rfl) (by kernel_rfl) fun w hS => ?_
          refine bcase (b := !b26734) (fun hb26882 => ?_) fun hb26882 => ?_
          · replace hF := ift hb26882 hF
            refine ⟨[(0, .bool b26734), (1, .bool (!b26734)), (2, .bool (!b26734)), (3, undef), (4, undef), (5, undef), (6, .bool true), (7, .bool true), (8, undef), (9, undef), (10, undef), (11, undef), (12, .bool true), (13, .bool true), (14, undef), (15, undef), (16, undef), (17, undef), (18, undef), (19, undef), (20, undef), (21, undef), (22, .bool true), (23, .bool true), (24, undef), (26, undef)], ?_⟩
            refine dEff [0, 1, 2, 3, 4, 5, 6, 7, 8, 9, 10, 11, 12, 13, 14, 15, 16, 17, 18, 19, 20, 21, 22, 23, 24, 26] [25] (by kernel_rfl) ⟨pu rfl rfl [(12, .bool b26734)] (fun ac hA => y_move hA rfl rfl) rfl rfl, pu rfl rfl [(169, .bool b26734)] (fun ac hA => r_not rfl (hA.ev rfl)) rfl rfl, pu rfl rfl [(170, .bool (!b26734))] (fun ac hA => y_move hA rfl rfl) rfl rfl, puOff rfl rfl rfl rfl [(14, .int .i64 y26736.2), (171, .bool (!b26734))] rfl hb26882 rfl, puOff rfl rfl rfl rfl [(16, .int .i64 y26742.2), (171, .bool (!b26734))] rfl hb26882 rfl, puOff rfl rfl rfl rfl [(171, .bool (!b26734)), (172, undef), (173, undef)] rfl hb26882 rfl, pu rfl rfl [(171, .bool (!b26734)), (174, undef)] (fun ac hA => y_pickt hb26882 hA rfl rfl rfl) rfl rfl, pu rfl rfl [(175, .bool true)] (fun ac hA => y_move hA rfl rfl) rfl rfl, puOff rfl rfl rfl rfl [(13, .slice B26738 m26739 d26740), (176, .bool true)] rfl rfl rfl, puOff rfl rfl rfl rfl [(176, .bool true), (177, undef)] rfl rfl rfl, puOff rfl rfl rfl rfl [(15, str y26742.1), (176, .bool true)] rfl rfl rfl, puOff rfl rfl rfl rfl [(176, .bool true), (178, undef), (179, undef)] rfl rfl rfl, pu rfl rfl [(176, .bool true), (180, undef)] (fun ac hA => y_pickt rfl hA rfl rfl rfl) rfl rfl, pu rfl rfl [(181, .bool true)] (fun ac hA => y_move hA rfl rfl) rfl rfl, puOff rfl rfl rfl rfl [(17, .slice B26747 m26748 d26749), (182, .bool true)] rfl rfl rfl, puOff rfl rfl rfl rfl [(182, .bool true), (183, undef)] rfl rfl rfl, puOff rfl rfl rfl rfl [(7, .pointer (some ⟨g120, 0, none⟩)), (182, .bool true)] rfl rfl rfl, puOff rfl rfl rfl rfl [(182, .bool true), (185, undef)] rfl rfl rfl, puOff rfl rfl rfl rfl [(182, .bool true), (186, undef)] rfl rfl rfl, puOff rfl rfl rfl rfl [(182, .bool true), (187, undef)] rfl rfl rfl, puOff rfl rfl rfl rfl [(182, .bool true), (188, undef)] rfl rfl rfl, puOff rfl rfl rfl rfl [(182, .bool true), (184, undef), (189, undef)] rfl rfl rfl, pu rfl rfl [(182, .bool true), (190, undef)] (fun ac hA => y_pickt rfl hA rfl rfl rfl) rfl rfl, pu rfl rfl [(191, .bool true)] (fun ac hA => y_move hA rfl rfl) rfl rfl, puOff rfl rfl rfl rfl [(5, .pointer p111), (192, .bool true)] rfl rfl rfl, puOff rfl rfl rfl rfl [(7, .pointer (some ⟨g120, 0, none⟩)), (192, .bool true)] rfl rfl rfl, trivial⟩ (by kernel_rfl) (by kernel_rfl) ⟨?_, trivial⟩
            refine efOff rfl rfl rfl [(192, .bool true), (193, undef)] rfl [] rfl rfl ?_ rfl
            refine dEff [26] [27] (by kernel_rfl) ⟨puOff rfl rfl rfl rfl [(7, .pointer (some ⟨g120, 0, none⟩)), (192, .bool true)] rfl rfl rfl, trivial⟩ (by kernel_rfl) (by kernel_rfl) ⟨?_, trivial⟩
            refine efOff rfl rfl rfl [(192, .bool true), (195, undef)] rfl [(28, undef), (29, .bool true), (30, .bool true), (31, undef), (33, undef), (34, undef), (35, undef), (36, undef)] rfl rfl ?_ rfl
            refine dEff [28, 29, 30, 31, 33, 34, 35, 36] [32] (by kernel_rfl) ⟨puOff rfl rfl rfl rfl [(192, .bool true), (194, undef), (196, undef)] rfl rfl rfl, pu rfl rfl [(192, .bool true), (197, undef)] (fun ac hA => y_pickt rfl hA rfl rfl rfl) rfl rfl, pu rfl rfl [(198, .bool true)] (fun ac hA => y_move hA rfl rfl) rfl rfl, puOff rfl rfl rfl rfl [(5, .pointer p111), (199, .bool true)] rfl rfl rfl, puOff rfl rfl rfl rfl [(7, .pointer (some ⟨g120, 0, none⟩)), (199, .bool true)] rfl rfl rfl, puOff rfl rfl rfl rfl [(199, .bool true), (202, undef)] rfl rfl rfl, puOff rfl rfl rfl rfl [(199, .bool true), (203, undef)] rfl rfl rfl, puOff rfl rfl rfl rfl [(199, .bool true), (204, undef)] rfl rfl rfl, trivial⟩ (by kernel_rfl) (by kernel_rfl) ⟨?_, trivial⟩
            refine efOff rfl rfl rfl [(199, .bool true), (200, undef)] rfl [(37, undef), (38, .bool true), (39, .bool true), (40, undef), (42, undef), (43, undef), (44, undef), (45, undef)] rfl rfl ?_ rfl
            refine dEff [33, 34, 35, 36, 37, 38, 39, 40, 42, 43, 44, 45] [41] (by kernel_rfl) ⟨puOff rfl rfl rfl rfl [(7, .pointer (some ⟨g120, 0, none⟩)), (199, .bool true)] rfl rfl rfl, puOff rfl rfl rfl rfl [(199, .bool true), (202, undef)] rfl rfl rfl, puOff rfl rfl rfl rfl [(199, .bool true), (203, undef)] rfl rfl rfl, puOff rfl rfl rfl rfl [(199, .bool true), (204, undef)] rfl rfl rfl, puOff rfl rfl rfl rfl [(199, .bool true), (201, undef), (205, undef)] rfl rfl rfl, pu rfl rfl [(199, .bool true), (206, undef)] (fun ac hA => y_pickt rfl hA rfl rfl rfl) rfl rfl, pu rfl rfl [(207, .bool true)] (fun ac hA => y_move hA rfl rfl) rfl rfl, puOff rfl rfl rfl rfl [(5, .pointer p111), (208, .bool true)] rfl rfl rfl, puOff rfl rfl rfl rfl [(7, .pointer (some ⟨g120, 0, none⟩)), (208, .bool true)] rfl rfl rfl, puOff rfl rfl rfl rfl [(208, .bool true), (211, undef)] rfl rfl rfl, puOff rfl rfl rfl rfl [(208, .bool true), (212, undef)] rfl rfl rfl, puOff rfl rfl rfl rfl [(208, .bool true), (213, undef)] rfl rfl rfl, trivial⟩ (by kernel_rfl) (by kernel_rfl) ⟨?_, trivial⟩
            refine efOff rfl rfl rfl [(208, .bool true), (209, undef)] rfl [(46, undef), (47, .bool true), (48, .bool true), (49, undef), (51, undef)] rfl rfl ?_ rfl
            refine dEff [42, 43, 44, 45, 46, 47, 48, 49, 51] [50] (by kernel_rfl) ⟨puOff rfl rfl rfl rfl [(7, .pointer (some ⟨g120, 0, none⟩)), (208, .bool true)] rfl rfl rfl, puOff rfl rfl rfl rfl [(208, .bool true), (211, undef)] rfl rfl rfl, puOff rfl rfl rfl rfl [(208, .bool true), (212, undef)] rfl rfl rfl, puOff rfl rfl rfl rfl [(208, .bool true), (213, undef)] rfl rfl rfl, puOff rfl rfl rfl rfl [(208, .bool true), (210, undef), (214, undef)] rfl rfl rfl, pu rfl rfl [(208, .bool true), (215, undef)] (fun ac hA => y_pickt rfl hA rfl rfl rfl) rfl rfl, pu rfl rfl [(216, .bool true)] (fun ac hA => y_move hA rfl rfl) rfl rfl, puOff rfl rfl rfl rfl [(10, str y26456.1), (217, .bool true)] rfl rfl rfl, puOff rfl rfl rfl rfl [(10, str y26456.1), (217, .bool true)] rfl rfl rfl, trivial⟩ (by kernel_rfl) (by kernel_rfl) ⟨?_, trivial⟩
            refine efOff rfl rfl rfl [(217, .bool true), (218, undef)] rfl [] rfl rfl ?_ rfl
            refine dEff [51] [52] (by kernel_rfl) ⟨puOff rfl rfl rfl rfl [(10, str y26456.1), (217, .bool true)] rfl rfl rfl, trivial⟩ (by kernel_rfl) (by kernel_rfl) ⟨?_, trivial⟩
            refine efOff rfl rfl rfl [(217, .bool true), (220, undef)] rfl [(53, undef), (54, .bool true)] rfl rfl ?_ rfl
            refine dEnd [53, 54] (by kernel_rfl) ⟨puOff rfl rfl rfl rfl [(217, .bool true), (219, undef), (221, undef)] rfl rfl rfl, pu rfl rfl [(217, .bool true), (222, undef)] (fun ac hA => y_pickt rfl hA rfl rfl rfl) rfl rfl, trivial⟩ ⟨by kernel_rfl, by kernel_rfl⟩ [(1, .slice A1 n1 c1), (5, .pointer p111), (7, .pointer (some ⟨g120, 0, none⟩)), (8, .int .i64 x22575), (17, .slice B26747 m26748 d26749), (223, .bool true)] rfl (fun ac hA => ?_)
            replace hS := hS.drop 4
            replace hS := hS.pk 3
            replace hS := hS.pk 2
            replace hS := hS.pk 3
            exact hj4 true hF ac w (hA.sub _ rfl) hS
          replace hF := iff' hb26882 hF
          refine bcase (b := y26736.2 != y26742.2) (fun hb26883 => ?_) fun hb26883 => ?_
          · replace hF := ift hb26883 hF
            refine ⟨[(0, .bool b26734), (1, .bool (!b26734)), (2, .bool (!b26734)), (3, .int .i64 y26736.2), (4, .int .i64 y26742.2), (5, .bool (y26736.2 != y26742.2)), (6, .bool (y26736.2 != y26742.2)), (7, .bool (y26736.2 != y26742.2)), (8, undef), (9, undef), (10, undef), (11, undef), (12, .bool true), (13, .bool true), (14, undef), (15, undef), (16, undef), (17, undef), (18, undef), (19, undef), (20, undef), (21, undef), (22, .bool true), (23, .bool true), (24, undef), (26, undef)], ?_⟩
            refine dEff [0, 1, 2, 3, 4, 5, 6, 7, 8, 9, 10, 11, 12, 13, 14, 15, 16, 17, 18, 19, 20, 21, 22, 23, 24, 26] [25] (by kernel_rfl) ⟨pu rfl rfl [(12, .bool b26734)] (fun ac hA => y_move hA rfl rfl) rfl rfl, pu rfl rfl [(169, .bool b26734)] (fun ac hA => r_not rfl (hA.ev rfl)) rfl rfl, pu rfl rfl [(170, .bool (!b26734))] (fun ac hA => y_move hA rfl rfl) rfl rfl, puOn rfl rfl rfl rfl [(14, .int .i64 y26736.2), (171, .bool (!b26734))] rfl hb26882 (fun ac hA => y_move hA rfl rfl) rfl, puOn rfl rfl rfl rfl [(16, .int .i64 y26742.2), (171, .bool (!b26734))] rfl hb26882 (fun ac hA => y_move hA rfl rfl) rfl, puOn rfl rfl rfl rfl [(171, .bool (!b26734)), (172, .int .i64 y26736.2), (173, .int .i64 y26742.2)] rfl hb26882 (fun ac hA => r_neI rfl (hA.ev rfl) (hA.ev rfl)) rfl, pu rfl rfl [(171, .bool (!b26734)), (174, .bool (y26736.2 != y26742.2))] (fun ac hA => y_pickf hb26882 hA rfl rfl rfl) rfl rfl, pu rfl rfl [(175, .bool (y26736.2 != y26742.2))] (fun ac hA => y_move hA rfl rfl) rfl rfl, puOff rfl rfl rfl rfl [(13, .slice B26738 m26739 d26740), (176, .bool (y26736.2 != y26742.2))] rfl hb26883 rfl, puOff rfl rfl rfl rfl [(176, .bool (y26736.2 != y26742.2)), (177, undef)] rfl hb26883 rfl, puOff rfl rfl rfl rfl [(15, str y26742.1), (176, .bool (y26736.2 != y26742.2))] rfl hb26883 rfl, puOff rfl rfl rfl rfl [(176, .bool (y26736.2 != y26742.2)), (178, undef), (179, undef)] rfl hb26883 rfl, pu rfl rfl [(176, .bool (y26736.2 != y26742.2)), (180, undef)] (fun ac hA => y_pickt hb26883 hA rfl rfl rfl) rfl rfl, pu rfl rfl [(181, .bool true)] (fun ac hA => y_move hA rfl rfl) rfl rfl, puOff rfl rfl rfl rfl [(17, .slice B26747 m26748 d26749), (182, .bool true)] rfl rfl rfl, puOff rfl rfl rfl rfl [(182, .bool true), (183, undef)] rfl rfl rfl, puOff rfl rfl rfl rfl [(7, .pointer (some ⟨g120, 0, none⟩)), (182, .bool true)] rfl rfl rfl, puOff rfl rfl rfl rfl [(182, .bool true), (185, undef)] rfl rfl rfl, puOff rfl rfl rfl rfl [(182, .bool true), (186, undef)] rfl rfl rfl, puOff rfl rfl rfl rfl [(182, .bool true), (187, undef)] rfl rfl rfl, puOff rfl rfl rfl rfl [(182, .bool true), (188, undef)] rfl rfl rfl, puOff rfl rfl rfl rfl [(182, .bool true), (184, undef), (189, undef)] rfl rfl rfl, pu rfl rfl [(182, .bool true), (190, undef)] (fun ac hA => y_pickt rfl hA rfl rfl rfl) rfl rfl, pu rfl rfl [(191, .bool true)] (fun ac hA => y_move hA rfl rfl) rfl rfl, puOff rfl rfl rfl rfl [(5, .pointer p111), (192, .bool true)] rfl rfl rfl, puOff rfl rfl rfl rfl [(7, .pointer (some ⟨g120, 0, none⟩)), (192, .bool true)] rfl rfl rfl, trivial⟩ (by kernel_rfl) (by kernel_rfl) ⟨?_, trivial⟩
            refine efOff rfl rfl rfl [(192, .bool true), (193, undef)] rfl [] rfl rfl ?_ rfl
            refine dEff [26] [27] (by kernel_rfl) ⟨puOff rfl rfl rfl rfl [(7, .pointer (some ⟨g120, 0, none⟩)), (192, .bool true)] rfl rfl rfl, trivial⟩ (by kernel_rfl) (by kernel_rfl) ⟨?_, trivial⟩
            refine efOff rfl rfl rfl [(192, .bool true), (195, undef)] rfl [(28, undef), (29, .bool true), (30, .bool true), (31, undef), (33, undef), (34, undef), (35, undef), (36, undef)] rfl rfl ?_ rfl
            refine dEff [28, 29, 30, 31, 33, 34, 35, 36] [32] (by kernel_rfl) ⟨puOff rfl rfl rfl rfl [(192, .bool true), (194, undef), (196, undef)] rfl rfl rfl, pu rfl rfl [(192, .bool true), (197, undef)] (fun ac hA => y_pickt rfl hA rfl rfl rfl) rfl rfl, pu rfl rfl [(198, .bool true)] (fun ac hA => y_move hA rfl rfl) rfl rfl, puOff rfl rfl rfl rfl [(5, .pointer p111), (199, .bool true)] rfl rfl rfl, puOff rfl rfl rfl rfl [(7, .pointer (some ⟨g120, 0, none⟩)), (199, .bool true)] rfl rfl rfl, puOff rfl rfl rfl rfl [(199, .bool true), (202, undef)] rfl rfl rfl, puOff rfl rfl rfl rfl [(199, .bool true), (203, undef)] rfl rfl rfl, puOff rfl rfl rfl rfl [(199, .bool true), (204, undef)] rfl rfl rfl, trivial⟩ (by kernel_rfl) (by kernel_rfl) ⟨?_, trivial⟩
            refine efOff rfl rfl rfl [(199, .bool true), (200, undef)] rfl [(37, undef), (38, .bool true), (39, .bool true), (40, undef), (42, undef), (43, undef), (44, undef), (45, undef)] rfl rfl ?_ rfl
            refine dEff [33, 34, 35, 36, 37, 38, 39, 40, 42, 43, 44, 45] [41] (by kernel_rfl) ⟨puOff rfl rfl rfl rfl [(7, .pointer (some ⟨g120, 0, none⟩)), (199, .bool true)] rfl rfl rfl, puOff rfl rfl rfl rfl [(199, .bool true), (202, undef)] rfl rfl rfl, puOff rfl rfl rfl rfl [(199, .bool true), (203, undef)] rfl rfl rfl, puOff rfl rfl rfl rfl [(199, .bool true), (204, undef)] rfl rfl rfl, puOff rfl rfl rfl rfl [(199, .bool true), (201, undef), (205, undef)] rfl rfl rfl, pu rfl rfl [(199, .bool true), (206, undef)] (fun ac hA => y_pickt rfl hA rfl rfl rfl) rfl rfl, pu rfl rfl [(207, .bool true)] (fun ac hA => y_move hA rfl rfl) rfl rfl, puOff rfl rfl rfl rfl [(5, .pointer p111), (208, .bool true)] rfl rfl rfl, puOff rfl rfl rfl rfl [(7, .pointer (some ⟨g120, 0, none⟩)), (208, .bool true)] rfl rfl rfl, puOff rfl rfl rfl rfl [(208, .bool true), (211, undef)] rfl rfl rfl, puOff rfl rfl rfl rfl [(208, .bool true), (212, undef)] rfl rfl rfl, puOff rfl rfl rfl rfl [(208, .bool true), (213, undef)] rfl rfl rfl, trivial⟩ (by kernel_rfl) (by kernel_rfl) ⟨?_, trivial⟩
            refine efOff rfl rfl rfl [(208, .bool true), (209, undef)] rfl [(46, undef), (47, .bool true), (48, .bool true), (49, undef), (51, undef)] rfl rfl ?_ rfl
            refine dEff [42, 43, 44, 45, 46, 47, 48, 49, 51] [50] (by kernel_rfl) ⟨puOff rfl rfl rfl rfl [(7, .pointer (some ⟨g120, 0, none⟩)), (208, .bool true)] rfl rfl rfl, puOff rfl rfl rfl rfl [(208, .bool true), (211, undef)] rfl rfl rfl, puOff rfl rfl rfl rfl [(208, .bool true), (212, undef)] rfl rfl rfl, puOff rfl rfl rfl rfl [(208, .bool true), (213, undef)] rfl rfl rfl, puOff rfl rfl rfl rfl [(208, .bool true), (210, undef), (214, undef)] rfl rfl rfl, pu rfl rfl [(208, .bool true), (215, undef)] (fun ac hA => y_pickt rfl hA rfl rfl rfl) rfl rfl, pu rfl rfl [(216, .bool true)] (fun ac hA => y_move hA rfl rfl) rfl rfl, puOff rfl rfl rfl rfl [(10, str y26456.1), (217, .bool true)] rfl rfl rfl, puOff rfl rfl rfl rfl [(10, str y26456.1), (217, .bool true)] rfl rfl rfl, trivial⟩ (by kernel_rfl) (by kernel_rfl) ⟨?_, trivial⟩
            refine efOff rfl rfl rfl [(217, .bool true), (218, undef)] rfl [] rfl rfl ?_ rfl
            refine dEff [51] [52] (by kernel_rfl) ⟨puOff rfl rfl rfl rfl [(10, str y26456.1), (217, .bool true)] rfl rfl rfl, trivial⟩ (by kernel_rfl) (by kernel_rfl) ⟨?_, trivial⟩
            refine efOff rfl rfl rfl [(217, .bool true), (220, undef)] rfl [(53, undef), (54, .bool true)] rfl rfl ?_ rfl
            refine dEnd [53, 54] (by kernel_rfl) ⟨puOff rfl rfl rfl rfl [(217, .bool true), (219, undef), (221, undef)] rfl rfl rfl, pu rfl rfl [(217, .bool true), (222, undef)] (fun ac hA => y_pickt rfl hA rfl rfl rfl) rfl rfl, trivial⟩ ⟨by kernel_rfl, by kernel_rfl⟩ [(1, .slice A1 n1 c1), (5, .pointer p111), (7, .pointer (some ⟨g120, 0, none⟩)), (8, .int .i64 x22575), (17, .slice B26747 m26748 d26749), (172, .int .i64 y26736.2), (173, .int .i64 y26742.2), (174, .bool (y26736.2 != y26742.2)), (223, .bool true)] rfl (fun ac hA => ?_)
            replace hS := hS.drop 4
            replace hS := hS.pk 3
            replace hS := hS.pk 2
            replace hS := hS.pk 3
            exact hj4 true hF ac w (hA.sub _ rfl) hS
          replace hF := iff' hb26883 hF
          refine bcase (b := !((bts y26736.1) == y26742.1)) (fun hb26884 => ?_) fun hb26884 => ?_
          · replace hF := ift hb26884 hF
            refine ⟨[(0, .bool b26734), (1, .bool (!b26734)), (2, .bool (!b26734)), (3, .int .i64 y26736.2), (4, .int .i64 y26742.2), (5, .bool (y26736.2 != y26742.2)), (6, .bool (y26736.2 != y26742.2)), (7, .bool (y26736.2 != y26742.2)), (8, .slice B26738 m26739 d26740), (9, str (bts y26736.1)), (10, str y26742.1), (11, .bool (!((bts y26736.1) == y26742.1))), (12, .bool (!((bts y26736.1) == y26742.1))), (13, .bool (!((bts y26736.1) == y26742.1))), (14, undef), (15, undef), (16, undef), (17, undef), (18, undef), (19, undef), (20, undef), (21, undef), (22, .bool true), (23, .bool true), (24, undef), (26, undef)], ?_⟩
            refine dEff [0, 1, 2, 3, 4, 5, 6, 7, 8, 9, 10, 11, 12, 13, 14, 15, 16, 17, 18, 19, 20, 21, 22, 23, 24, 26] [25] (by kernel_rfl) ⟨pu rfl rfl [(12, .bool b26734)] (fun ac hA => y_move hA rfl rfl) rfl rfl, pu rfl rfl [(169, .bool b26734)] (fun ac hA => r_not rfl (hA.ev rfl)) rfl rfl, pu rfl rfl [(170, .bool (!b26734))] (fun ac hA => y_move hA rfl rfl) rfl rfl, puOn rfl rfl rfl rfl [(14, .int .i64 y26736.2), (171, .bool (!b26734))] rfl hb26882 (fun ac hA => y_move hA rfl rfl) rfl, puOn rfl rfl rfl rfl [(16, .int .i64 y26742.2), (171, .bool (!b26734))] rfl hb26882 (fun ac hA => y_move hA rfl rfl) rfl, puOn rfl rfl rfl rfl [(171, .bool (!b26734)), (172, .int .i64 y26736.2), (173, .int .i64 y26742.2)] rfl hb26882 (fun ac hA => r_neI rfl (hA.ev rfl) (hA.ev rfl)) rfl, pu rfl rfl [(171, .bool (!b26734)), (174, .bool (y26736.2 != y26742.2))] (fun ac hA => y_pickf hb26882 hA rfl rfl rfl) rfl rfl, pu rfl rfl [(175, .bool (y26736.2 != y26742.2))] (fun ac hA => y_move hA rfl rfl) rfl rfl, puOn rfl rfl rfl rfl [(13, .slice B26738 m26739 d26740), (176, .bool (y26736.2 != y26742.2))] rfl hb26883 (fun ac hA => y_move hA rfl rfl) rfl, puOn rfl rfl rfl rfl [(176, .bool (y26736.2 != y26742.2)), (177, .slice B26738 m26739 d26740)] rfl hb26883 (fun ac hA => y_b2s Try.underlying22 Try.underlying5 Try.underlying9 (hS.rd 4 rfl) hA rfl rfl) rfl, puOn rfl rfl rfl rfl [(15, str y26742.1), (176, .bool (y26736.2 != y26742.2))] rfl hb26883 (fun ac hA => y_move hA rfl rfl) rfl, puOn rfl rfl rfl rfl [(176, .bool (y26736.2 != y26742.2)), (178, str (bts y26736.1)), (179, str y26742.1)] rfl hb26883 (fun ac hA => r_neS rfl (hA.ev rfl) (hA.ev rfl)) rfl, pu rfl rfl [(176, .bool (y26736.2 != y26742.2)), (180, .bool (!((bts y26736.1) == y26742.1)))] (fun ac hA => y_pickf hb26883 hA rfl rfl rfl) rfl rfl, pu rfl rfl [(181, .bool (!((bts y26736.1) == y26742.1)))] (fun ac hA => y_move hA rfl rfl) rfl rfl, puOff rfl rfl rfl rfl [(17, .slice B26747 m26748 d26749), (182, .bool (!((bts y26736.1) == y26742.1)))] rfl hb26884 rfl, puOff rfl rfl rfl rfl [(182, .bool (!((bts y26736.1) == y26742.1))), (183, undef)] rfl hb26884 rfl, puOff rfl rfl rfl rfl [(7, .pointer (some ⟨g120, 0, none⟩)), (182, .bool (!((bts y26736.1) == y26742.1)))] rfl hb26884 rfl, puOff rfl rfl rfl rfl [(182, .bool (!((bts y26736.1) == y26742.1))), (185, undef)] rfl hb26884 rfl, puOff rfl rfl rfl rfl [(182, .bool (!((bts y26736.1) == y26742.1))), (186, undef)] rfl hb26884 rfl, puOff rfl rfl rfl rfl [(182, .bool (!((bts y26736.1) == y26742.1))), (187, undef)] rfl hb26884 rfl, puOff rfl rfl rfl rfl [(182, .bool (!((bts y26736.1) == y26742.1))), (188, undef)] rfl hb26884 rfl, puOff rfl rfl rfl rfl [(182, .bool (!((bts y26736.1) == y26742.1))), (184, undef), (189, undef)] rfl hb26884 rfl, pu rfl rfl [(182, .bool (!((bts y26736.1) == y26742.1))), (190, undef)] (fun ac hA => y_pickt hb26884 hA rfl rfl rfl) rfl rfl, pu rfl rfl [(191, .bool true)] (fun ac hA => y_move hA rfl rfl) rfl rfl, puOff rfl rfl rfl rfl [(5, .pointer p111), (192, .bool true)] rfl rfl rfl, puOff rfl rfl rfl rfl [(7, .pointer (some ⟨g120, 0, none⟩)), (192, .bool true)] rfl rfl rfl, trivial⟩ (by kernel_rfl) (by kernel_rfl) ⟨?_, trivial⟩
            refine efOff rfl rfl rfl [(192, .bool true), (193, undef)] rfl [] rfl rfl ?_ rfl
            refine dEff [26] [27] (by kernel_rfl) ⟨puOff rfl rfl rfl rfl [(7, .pointer (some ⟨g120, 0, none⟩)), (192, .bool true)] rfl rfl rfl, trivial⟩ (by kernel_rfl) (by kernel_rfl) ⟨?_, trivial⟩
            refine efOff rfl rfl rfl [(192, .bool true), (195, undef)] rfl [(28, undef), (29, .bool true), (30, .bool true), (31, undef), (33, undef), (34, undef), (35, undef), (36, undef)] rfl rfl ?_ rfl
            refine dEff [28, 29, 30, 31, 33, 34, 35, 36] [32] (by kernel_rfl) ⟨puOff rfl rfl rfl rfl [(192, .bool true), (194, undef), (196, undef)] rfl rfl rfl, pu rfl rfl [(192, .bool true), (197, undef)] (fun ac hA => y_pickt rfl hA rfl rfl rfl) rfl rfl, pu rfl rfl [(198, .bool true)] (fun ac hA => y_move hA rfl rfl) rfl rfl, puOff rfl rfl rfl rfl [(5, .pointer p111), (199, .bool true)] rfl rfl rfl, puOff rfl rfl rfl rfl [(7, .pointer (some ⟨g120, 0, none⟩)), (199, .bool true)] rfl rfl rfl, puOff rfl rfl rfl rfl [(199, .bool true), (202, undef)] rfl rfl rfl, puOff rfl rfl rfl rfl [(199, .bool true), (203, undef)] rfl rfl rfl, puOff rfl rfl rfl rfl [(199, .bool true), (204, undef)] rfl rfl rfl, trivial⟩ (by kernel_rfl) (by kernel_rfl) ⟨?_, trivial⟩
            refine efOff rfl rfl rfl [(199, .bool true), (200, undef)] rfl [(37, undef), (38, .bool true), (39, .bool true), (40, undef), (42, undef), (43, undef), (44, undef), (45, undef)] rfl rfl ?_ rfl
            refine dEff [33, 34, 35, 36, 37, 38, 39, 40, 42, 43, 44, 45] [41] (by kernel_rfl) ⟨puOff rfl rfl rfl rfl [(7, .pointer (some ⟨g120, 0, none⟩)), (199, .bool true)] rfl rfl rfl, puOff rfl rfl rfl rfl [(199, .bool true), (202, undef)] rfl rfl rfl, puOff rfl rfl rfl rfl [(199, .bool true), (203, undef)] rfl rfl rfl, puOff rfl rfl rfl rfl [(199, .bool true), (204, undef)] rfl rfl rfl, puOff rfl rfl rfl rfl [(199, .bool true), (201, undef), (205, undef)] rfl rfl rfl, pu rfl rfl [(199, .bool true), (206, undef)] (fun ac hA => y_pickt rfl hA rfl rfl rfl) rfl rfl, pu rfl rfl [(207, .bool true)] (fun ac hA => y_move hA rfl rfl) rfl rfl, puOff rfl rfl rfl rfl [(5, .pointer p111), (208, .bool true)] rfl rfl rfl, puOff rfl rfl rfl rfl [(7, .pointer (some ⟨g120, 0, none⟩)), (208, .bool true)] rfl rfl rfl, puOff rfl rfl rfl rfl [(208, .bool true), (211, undef)] rfl rfl rfl, puOff rfl rfl rfl rfl [(208, .bool true), (212, undef)] rfl rfl rfl, puOff rfl rfl rfl rfl [(208, .bool true), (213, undef)] rfl rfl rfl, trivial⟩ (by kernel_rfl) (by kernel_rfl) ⟨?_, trivial⟩
            refine efOff rfl rfl rfl [(208, .bool true), (209, undef)] rfl [(46, undef), (47, .bool true), (48, .bool true), (49, undef), (51, undef)] rfl rfl ?_ rfl
            refine dEff [42, 43, 44, 45, 46, 47, 48, 49, 51] [50] (by kernel_rfl) ⟨puOff rfl rfl rfl rfl [(7, .pointer (some ⟨g120, 0, none⟩)), (208, .bool true)] rfl rfl rfl, puOff rfl rfl rfl rfl [(208, .bool true), (211, undef)] rfl rfl rfl, puOff rfl rfl rfl rfl [(208, .bool true), (212, undef)] rfl rfl rfl, puOff rfl rfl rfl rfl [(208, .bool true), (213, undef)] rfl rfl rfl, puOff rfl rfl rfl rfl [(208, .bool true), (210, undef), (214, undef)] rfl rfl rfl, pu rfl rfl [(208, .bool true), (215, undef)] (fun ac hA => y_pickt rfl hA rfl rfl rfl) rfl rfl, pu rfl rfl [(216, .bool true)] (fun ac hA => y_move hA rfl rfl) rfl rfl, puOff rfl rfl rfl rfl [(10, str y26456.1), (217, .bool true)] rfl rfl rfl, puOff rfl rfl rfl rfl [(10, str y26456.1), (217, .bool true)] rfl rfl rfl, trivial⟩ (by kernel_rfl) (by kernel_rfl) ⟨?_, trivial⟩
            refine efOff rfl rfl rfl [(217, .bool true), (218, undef)] rfl [] rfl rfl ?_ rfl
            refine dEff [51] [52] (by kernel_rfl) ⟨puOff rfl rfl rfl rfl [(10, str y26456.1), (217, .bool true)] rfl rfl rfl, trivial⟩ (by kernel_rfl) (by kernel_rfl) ⟨?_, trivial⟩
            refine efOff rfl rfl rfl [(217, .bool true), (220, undef)] rfl [(53, undef), (54, .bool true)] rfl rfl ?_ rfl
            refine dEnd [53, 54] (by kernel_rfl) ⟨puOff rfl rfl rfl rfl [(217, .bool true), (219, undef), (221, undef)] rfl rfl rfl, pu rfl rfl [(217, .bool true), (222, undef)] (fun ac hA => y_pickt rfl hA rfl rfl rfl) rfl rfl, trivial⟩ ⟨by kernel_rfl, by kernel_rfl⟩ [(1, .slice A1 n1 c1), (5, .pointer p111), (7, .pointer (some ⟨g120, 0, none⟩)), (8, .int .i64 x22575), (17, .slice B26747 m26748 d26749), (172, .int .i64 y26736.2), (173, .int .i64 y26742.2), (174, .bool (y26736.2 != y26742.2)), (177, .slice B26738 m26739 d26740), (178, str (bts y26736.1)), (179, str y26742.1), (180, .bool (!((bts y26736.1) == y26742.1))), (223, .bool true)] rfl (fun ac hA => ?_)
            replace hS := hS.drop 4
            replace hS := hS.pk 3
            replace hS := hS.pk 2
            replace hS := hS.pk 3
            exact hj4 true hF ac w (hA.sub _ rfl) hS
          replace hF := iff' hb26884 hF
          refine bcase (b := (y26745.length : Int) != (l26726.length : Int)) (fun hb26885 => ?_) fun hb26885 => ?_
          · replace hF := ift hb26885 hF
            refine ⟨[(0, .bool b26734), (1, .bool (!b26734)), (2, .bool (!b26734)), (3, .int .i64 y26736.2), (4, .int .i64 y26742.2), (5, .bool (y26736.2 != y26742.2)), (6, .bool (y26736.2 != y26742.2)), (7, .bool (y26736.2 != y26742.2)), (8, .slice B26738 m26739 d26740), (9, str (bts y26736.1)), (10, str y26742.1), (11, .bool (!((bts y26736.1) == y26742.1))), (12, .bool (!((bts y26736.1) == y26742.1))), (13, .bool (!((bts y26736.1) == y26742.1))), (14, .slice B26747 m26748 d26749), (15, .int .i64 (y26745.length : Int)), (16, .pointer (some ⟨g120, 0, none⟩)), (17, .pointer (some ⟨g120, 0, none⟩)), (18, .pointer (some ⟨g120, 0, none⟩)), (19, .slice A26727 n26728 c26729), (20, .int .i64 (l26726.length : Int)), (21, .bool ((y26745.length : Int) != (l26726.length : Int))), (22, .bool ((y26745.length : Int) != (l26726.length : Int))), (23, .bool ((y26745.length : Int) != (l26726.length : Int))), (24, undef), (26, undef)], ?_⟩
            refine dEff [0, 1, 2, 3, 4, 5, 6, 7, 8, 9, 10, 11, 12, 13, 14, 15, 16, 17, 18, 19, 20, 21, 22, 23, 24, 26] [25] (by kernel_rfl) ⟨pu rfl rfl [(12, .bool b26734)] (fun ac hA => y_move hA rfl rfl) rfl rfl, pu rfl rfl [(169, .bool b26734)] (fun ac hA => r_not rfl (hA.ev rfl)) rfl rfl, pu rfl rfl [(170, .bool (!b26734))] (fun ac hA => y_move hA rfl rfl) rfl rfl, puOn rfl rfl rfl rfl [(14, .int .i64 y26736.2), (171, .bool (!b26734))] rfl hb26882 (fun ac hA => y_move hA rfl rfl) rfl, puOn rfl rfl rfl rfl [(16, .int .i64 y26742.2), (171, .bool (!b26734))] rfl hb26882 (fun ac hA => y_move hA rfl rfl) rfl, puOn rfl rfl rfl rfl [(171, .bool (!b26734)), (172, .int .i64 y26736.2), (173, .int .i64 y26742.2)] rfl hb26882 (fun ac hA => r_neI rfl (hA.ev rfl) (hA.ev rfl)) rfl, pu rfl rfl [(171, .bool (!b26734)), (174, .bool (y26736.2 != y26742.2))] (fun ac hA => y_pickf hb26882 hA rfl rfl rfl) rfl rfl, pu rfl rfl [(175, .bool (y26736.2 != y26742.2))] (fun ac hA => y_move hA rfl rfl) rfl rfl, puOn rfl rfl rfl rfl [(13, .slice B26738 m26739 d26740), (176, .bool (y26736.2 != y26742.2))] rfl hb26883 (fun ac hA => y_move hA rfl rfl) rfl, puOn rfl rfl rfl rfl [(176, .bool (y26736.2 != y26742.2)), (177, .slice B26738 m26739 d26740)] rfl hb26883 (fun ac hA => y_b2s Try.underlying22 Try.underlying5 Try.underlying9 (hS.rd 4 rfl) hA rfl rfl) rfl, puOn rfl rfl rfl rfl [(15, str y26742.1), (176, .bool (y26736.2 != y26742.2))] rfl hb26883 (fun ac hA => y_move hA rfl rfl) rfl, puOn rfl rfl rfl rfl [(176, .bool (y26736.2 != y26742.2)), (178, str (bts y26736.1)), (179, str y26742.1)] rfl hb26883 (fun ac hA => r_neS rfl (hA.ev rfl) (hA.ev rfl)) rfl, pu rfl rfl [(176, .bool (y26736.2 != y26742.2)), (180, .bool (!((bts y26736.1) == y26742.1)))] (fun ac hA => y_pickf hb26883 hA rfl rfl rfl) rfl rfl, pu rfl rfl [(181, .bool (!((bts y26736.1) == y26742.1)))] (fun ac hA => y_move hA rfl rfl) rfl rfl, puOn rfl rfl rfl rfl [(17, .slice B26747 m26748 d26749), (182, .bool (!((bts y26736.1) == y26742.1)))] rfl hb26884 (fun ac hA => y_move hA rfl rfl) rfl, puOn rfl rfl rfl rfl [(182, .bool (!((bts y26736.1) == y26742.1))), (183, .slice B26747 m26748 d26749)] rfl hb26884 (fun ac hA => y_len Try.underlying31 (hS.rd 0 rfl).2.1 hA rfl rfl) rfl, puOn rfl rfl rfl rfl [(7, .pointer (some ⟨g120, 0, none⟩)), (182, .bool (!((bts y26736.1) == y26742.1)))] rfl hb26884 (fun ac hA => y_move hA rfl rfl) rfl, puOn rfl rfl rfl rfl [(182, .bool (!((bts y26736.1) == y26742.1))), (185, .pointer (some ⟨g120, 0, none⟩))] rfl hb26884 (fun ac hA => r_nilCheck rfl (hA.ev rfl)) rfl, puOn rfl rfl rfl rfl [(182, .bool (!((bts y26736.1) == y26742.1))), (186, .pointer (some ⟨g120, 0, none⟩))] rfl hb26884 (fun ac hA => y_fab fa53_0 hA rfl rfl) rfl, puOn rfl rfl rfl rfl [(182, .bool (!((bts y26736.1) == y26742.1))), (187, .pointer (some ⟨g120, 0, none⟩))] rfl hb26884 (fun ac hA => y_ld Try.underlying51 (hS.cell 2 rfl 0 _ rfl) hA rfl rfl rfl) rfl, puOn rfl rfl rfl rfl [(182, .bool (!((bts y26736.1) == y26742.1))), (188, .slice A26727 n26728 c26729)] rfl hb26884 (fun ac hA => y_len Try.underlying51 (hS.rd 3 rfl).2.1 hA rfl rfl) rfl, puOn rfl rfl rfl rfl [(182, .bool (!((bts y26736.1) == y26742.1))), (184, .int .i64 (y26745.length : Int)), (189, .int .i64 (l26726.length : Int))] rfl hb26884 (fun ac hA => r_neI rfl (hA.ev rfl) (hA.ev rfl)) rfl, pu rfl rfl [(182, .bool (!((bts y26736.1) == y26742.1))), (190, .bool ((y26745.length : Int) != (l26726.length : Int)))] (fun ac hA => y_pickf hb26884 hA rfl rfl rfl) rfl rfl, pu rfl rfl [(191, .bool ((y26745.length : Int) != (l26726.length : Int)))] (fun ac hA => y_move hA rfl rfl) rfl rfl, puOff rfl rfl rfl rfl [(5, .pointer p111), (192, .bool ((y26745.length : Int) != (l26726.length : Int)))] rfl hb26885 rfl, puOff rfl rfl rfl rfl [(7, .pointer (some ⟨g120, 0, none⟩)), (192, .bool ((y26745.length : Int) != (l26726.length : Int)))] rfl hb26885 rfl, trivial⟩ (by kernel_rfl) (by kernel_rfl) ⟨?_, trivial⟩
            refine efOff rfl rfl rfl [(192, .bool ((y26745.length : Int) != (l26726.length : Int))), (193, undef)] rfl [] hb26885 rfl ?_ rfl
            refine dEff [26] [27] (by kernel_rfl) ⟨puOff rfl rfl rfl rfl [(7, .pointer (some ⟨g120, 0, none⟩)), (192, .bool ((y26745.length : Int) != (l26726.length : Int)))] rfl hb26885 rfl, trivial⟩ (by kernel_rfl) (by kernel_rfl) ⟨?_, trivial⟩
            refine efOff rfl rfl rfl [(192, .bool ((y26745.length : Int) != (l26726.length : Int))), (195, undef)] rfl [(28, undef), (29, .bool true), (30, .bool true), (31, undef), (33, undef), (34, undef), (35, undef), (36, undef)] hb26885 rfl ?_ rfl
            refine dEff [28, 29, 30, 31, 33, 34, 35, 36] [32] (by kernel_rfl) ⟨puOff rfl rfl rfl rfl [(192, .bool ((y26745.length : Int) != (l26726.length : Int))), (194, undef), (196, undef)] rfl hb26885 rfl, pu rfl rfl [(192, .bool ((y26745.length : Int) != (l26726.length : Int))), (197, undef)] (fun ac hA => y_pickt hb26885 hA rfl rfl rfl) rfl rfl, pu rfl rfl [(198, .bool true)] (fun ac hA => y_move hA rfl rfl) rfl rfl, puOff rfl rfl rfl rfl [(5, .pointer p111), (199, .bool true)] rfl rfl rfl, puOff rfl rfl rfl rfl [(7, .pointer (some ⟨g120, 0, none⟩)), (199, .bool true)] rfl rfl rfl, puOff rfl rfl rfl rfl [(199, .bool true), (202, undef)] rfl rfl rfl, puOff rfl rfl rfl rfl [(199, .bool true), (203, undef)] rfl rfl rfl, puOff rfl rfl rfl rfl [(199, .bool true), (204, undef)] rfl rfl rfl, trivial⟩ (by kernel_rfl) (by kernel_rfl) ⟨?_, trivial⟩
            refine efOff rfl rfl rfl [(199, .bool true), (200, undef)] rfl [(37, undef), (38, .bool true), (39, .bool true), (40, undef), (42, undef), (43, undef), (44, undef), (45, undef)] rfl rfl ?_ rfl
            refine dEff [33, 34, 35, 36, 37, 38, 39, 40, 42, 43, 44, 45] [41] (by kernel_rfl) ⟨puOff rfl rfl rfl rfl [(7, .pointer (some ⟨g120, 0, none⟩)), (199, .bool true)] rfl rfl rfl, puOff rfl rfl rfl rfl [(199, .bool true), (202, undef)] rfl rfl rfl, puOff rfl rfl rfl rfl [(199, .bool true), (203, undef)] rfl rfl rfl, puOff rfl rfl rfl rfl [(199, .bool true), (204, undef)] rfl rfl rfl, puOff rfl rfl rfl rfl [(199, .bool true), (201, undef), (205, undef)] rfl rfl rfl, pu rfl rfl [(199, .bool true), (206, undef)] (fun ac hA => y_pickt rfl hA rfl rfl rfl) rfl rfl, pu rfl rfl [(207, .bool true)] (fun ac hA => y_move hA rfl rfl) rfl rfl, puOff rfl rfl rfl rfl [(5, .pointer p111), (208, .bool true)] rfl rfl rfl, puOff rfl rfl rfl rfl [(7, .pointer (some ⟨g120, 0, none⟩)), (208, .bool true)] rfl rfl rfl, puOff rfl rfl rfl rfl [(208, .bool true), (211, undef)] rfl rfl rfl, puOff rfl rfl rfl rfl [(208, .bool true), (212, undef)] rfl rfl rfl, puOff rfl rfl rfl rfl [(208, .bool true), (213, undef)] rfl rfl rfl, trivial⟩ (by kernel_rfl) (by kernel_rfl) ⟨?_, trivial⟩
            refine efOff rfl rfl rfl [(208, .bool true), (209, undef)] rfl [(46, undef), (47, .bool true), (48, .bool true), (49, undef), (51, undef)] rfl rfl ?_ rfl
            refine dEff [42, 43, 44, 45, 46, 47, 48, 49, 51] [50] (by kernel_rfl) ⟨puOff rfl rfl rfl rfl [(7, .pointer (some ⟨g120, 0, none⟩)), (208, .bool true)] rfl rfl rfl, puOff rfl rfl rfl rfl [(208, .bool true), (211, undef)] rfl rfl rfl, puOff rfl rfl rfl rfl [(208, .bool true), (212, undef)] rfl rfl rfl, puOff rfl rfl rfl rfl [(208, .bool true), (213, undef)] rfl rfl rfl, puOff rfl rfl rfl rfl [(208, .bool true), (210, undef), (214, undef)] rfl rfl rfl, pu rfl rfl [(208, .bool true), (215, undef)] (fun ac hA => y_pickt rfl hA rfl rfl rfl) rfl rfl, pu rfl rfl [(216, .bool true)] (fun ac hA => y_move hA rfl rfl) rfl rfl, puOff rfl rfl rfl rfl [(10, str y26456.1), (217, .bool true)] rfl rfl rfl, puOff rfl rfl rfl rfl [(10, str y26456.1), (217, .bool true)] rfl rfl rfl, trivial⟩ (by kernel_rfl) (by kernel_rfl) ⟨?_, trivial⟩
            refine efOff rfl rfl rfl [(217, .bool true), (218, undef)] rfl [] rfl rfl ?_ rfl
            refine dEff [51] [52] (by kernel_rfl) ⟨puOff rfl rfl rfl rfl [(10, str y26456.1), (217, .bool true)] rfl rfl rfl, trivial⟩ (by kernel_rfl) (by kernel_rfl) ⟨?_, trivial⟩
            refine efOff rfl rfl rfl [(217, .bool true), (220, undef)] rfl [(53, undef), (54, .bool true)] rfl rfl ?_ rfl
            refine dEnd [53, 54] (by kernel_rfl) ⟨puOff rfl rfl rfl rfl [(217, .bool true), (219, undef), (221, undef)] rfl rfl rfl, pu rfl rfl [(217, .bool true), (222, undef)] (fun ac hA => y_pickt rfl hA rfl rfl rfl) rfl rfl, trivial⟩ ⟨by kernel_rfl, by kernel_rfl⟩ [(1, .slice A1 n1 c1), (5, .pointer p111), (7, .pointer (some ⟨g120, 0, none⟩)), (8, .int .i64 x22575), (17, .slice B26747 m26748 d26749), (172, .int .i64 y26736.2), (173, .int .i64 y26742.2), (174, .bool (y26736.2 != y26742.2)), (177, .slice B26738 m26739 d26740), (178, str (bts y26736.1)), (179, str y26742.1), (180, .bool (!((bts y26736.1) == y26742.1))), (183, .slice B26747 m26748 d26749), (184, .int .i64 (y26745.length : Int)), (185, .pointer (some ⟨g120, 0, none⟩)), (186, .pointer (some ⟨g120, 0, none⟩)), (187, .pointer (some ⟨g120, 0, none⟩)), (188, .slice A26727 n26728 c26729), (189, .int .i64 (l26726.length : Int)), (190, .bool ((y26745.length : Int) != (l26726.length : Int))), (223, .bool true)] rfl (fun ac hA => ?_)
            replace hS := hS.drop 4
            replace hS := hS.pk 3
            replace hS := hS.pk 2
            replace hS := hS.pk 3
            exact hj4 true hF ac w (hA.sub _ rfl) hS
          replace hF := iff' hb26885 hF
          refine ⟨[(0, .bool b26734), (1, .bool (!b26734)), (2, .bool (!b26734)), (3, .int .i64 y26736.2), (4, .int .i64 y26742.2), (5, .bool (y26736.2 != y26742.2)), (6, .bool (y26736.2 != y26742.2)), (7, .bool (y26736.2 != y26742.2)), (8, .slice B26738 m26739 d26740), (9, str (bts y26736.1)), (10, str y26742.1), (11, .bool (!((bts y26736.1) == y26742.1))), (12, .bool (!((bts y26736.1) == y26742.1))), (13, .bool (!((bts y26736.1) == y26742.1))), (14, .slice B26747 m26748 d26749), (15, .int .i64 (y26745.length : Int)), (16, .pointer (some ⟨g120, 0, none⟩)), (17, .pointer (some ⟨g120, 0, none⟩)), (18, .pointer (some ⟨g120, 0, none⟩)), (19, .slice A26727 n26728 c26729), (20, .int .i64 (l26726.length : Int)), (21, .bool ((y26745.length : Int) != (l26726.length : Int))), (22, .bool ((y26745.length : Int) != (l26726.length : Int))), (23, .bool ((y26745.length : Int) != (l26726.length : Int))), (24, .pointer p111), (26, .pointer (some ⟨g120, 0, none⟩))], ?_⟩
          refine dEff [0, 1, 2, 3, 4, 5, 6, 7, 8, 9, 10, 11, 12, 13, 14, 15, 16, 17, 18, 19, 20, 21, 22, 23, 24, 26] [25] (by kernel_rfl) ⟨pu rfl rfl [(12, .bool b26734)] (fun ac hA => y_move hA rfl rfl) rfl rfl, pu rfl rfl [(169, .bool b26734)] (fun ac hA => r_not rfl (hA.ev rfl)) rfl rfl, pu rfl rfl [(170, .bool (!b26734))] (fun ac hA => y_move hA rfl rfl) rfl rfl, puOn rfl rfl rfl rfl [(14, .int .i64 y26736.2), (171, .bool (!b26734))] rfl hb26882 (fun ac hA => y_move hA rfl rfl) rfl, puOn rfl rfl rfl rfl [(16, .int .i64 y26742.2), (171, .bool (!b26734))] rfl hb26882 (fun ac hA => y_move hA rfl rfl) rfl, puOn rfl rfl rfl rfl [(171, .bool (!b26734)), (172, .int .i64 y26736.2), (173, .int .i64 y26742.2)] rfl hb26882 (fun ac hA => r_neI rfl (hA.ev rfl) (hA.ev rfl)) rfl, pu rfl rfl [(171, .bool (!b26734)), (174, .bool (y26736.2 != y26742.2))] (fun ac hA => y_pickf hb26882 hA rfl rfl rfl) rfl rfl, pu rfl rfl [(175, .bool (y26736.2 != y26742.2))] (fun ac hA => y_move hA rfl rfl) rfl rfl, puOn rfl rfl rfl rfl [(13, .slice B26738 m26739 d26740), (176, .bool (y26736.2 != y26742.2))] rfl hb26883 (fun ac hA => y_move hA rfl rfl) rfl, puOn rfl rfl rfl rfl [(176, .bool (y26736.2 != y26742.2)), (177, .slice B26738 m26739 d26740)] rfl hb26883 (fun ac hA => y_b2s Try.underlying22 Try.underlying5 Try.underlying9 (hS.rd 4 rfl) hA rfl rfl) rfl, puOn rfl rfl rfl rfl [(15, str y26742.1), (176, .bool (y26736.2 != y26742.2))] rfl hb26883 (fun ac hA => y_move hA rfl rfl) rfl, puOn rfl rfl rfl rfl [(176, .bool (y26736.2 != y26742.2)), (178, str (bts y26736.1)), (179, str y26742.1)] rfl hb26883 (fun ac hA => r_neS rfl (hA.ev rfl) (hA.ev rfl)) rfl, pu rfl rfl [(176, .bool (y26736.2 != y26742.2)), (180, .bool (!((bts y26736.1) == y26742.1)))] (fun ac hA => y_pickf hb26883 hA rfl rfl rfl) rfl rfl, pu rfl rfl [(181, .bool (!((bts y26736.1) == y26742.1)))] (fun ac hA => y_move hA rfl rfl) rfl rfl, puOn rfl rfl rfl rfl [(17, .slice B26747 m26748 d26749), (182, .bool (!((bts y26736.1) == y26742.1)))] rfl hb26884 (fun ac hA => y_move hA rfl rfl) rfl, puOn rfl rfl rfl rfl [(182, .bool (!((bts y26736.1) == y26742.1))), (183, .slice B26747 m26748 d26749)] rfl hb26884 (fun ac hA => y_len Try.underlying31 (hS.rd 0 rfl).2.1 hA rfl rfl) rfl, puOn rfl rfl rfl rfl [(7, .pointer (some ⟨g120, 0, none⟩)), (182, .bool (!((bts y26736.1) == y26742.1)))] rfl hb26884 (fun ac hA => y_move hA rfl rfl) rfl, puOn rfl rfl rfl rfl [(182, .bool (!((bts y26736.1) == y26742.1))), (185, .pointer (some ⟨g120, 0, none⟩))] rfl hb26884 (fun ac hA => r_nilCheck rfl (hA.ev rfl)) rfl, puOn rfl rfl rfl rfl [(182, .bool (!((bts y26736.1) == y26742.1))), (186, .pointer (some ⟨g120, 0, none⟩))] rfl hb26884 (fun ac hA => y_fab fa53_0 hA rfl rfl) rfl, puOn rfl rfl rfl rfl [(182, .bool (!((bts y26736.1) == y26742.1))), (187, .pointer (some ⟨g120, 0, none⟩))] rfl hb26884 (fun ac hA => y_ld Try.underlying51 (hS.cell 2 rfl 0 _ rfl) hA rfl rfl rfl) rfl, puOn rfl rfl rfl rfl [(182, .bool (!((bts y26736.1) == y26742.1))), (188, .slice A26727 n26728 c26729)] rfl hb26884 (fun ac hA => y_len Try.underlying51 (hS.rd 3 rfl).2.1 hA rfl rfl) rfl, puOn rfl rfl rfl rfl [(182, .bool (!((bts y26736.1) == y26742.1))), (184, .int .i64 (y26745.length : Int)), (189, .int .i64 (l26726.length : Int))] rfl hb26884 (fun ac hA => r_neI rfl (hA.ev rfl) (hA.ev rfl)) rfl, pu rfl rfl [(182, .bool (!((bts y26736.1) == y26742.1))), (190, .bool ((y26745.length : Int) != (l26726.length : Int)))] (fun ac hA => y_pickf hb26884 hA rfl rfl rfl) rfl rfl, pu rfl rfl [(191, .bool ((y26745.length : Int) != (l26726.length : Int)))] (fun ac hA => y_move hA rfl rfl) rfl rfl, puOn rfl rfl rfl rfl [(5, .pointer p111), (192, .bool ((y26745.length : Int) != (l26726.length : Int)))] rfl hb26885 (fun ac hA => y_move hA rfl rfl) rfl, puOn rfl rfl rfl rfl [(7, .pointer (some ⟨g120, 0, none⟩)), (192, .bool ((y26745.length : Int) != (l26726.length : Int)))] rfl hb26885 (fun ac hA => y_move hA rfl rfl) rfl, trivial⟩ (by kernel_rfl) (by kernel_rfl) ⟨efOn rfl rfl rfl [(192, .bool ((y26745.length : Int) != (l26726.length : Int))), (193, .pointer p111)] rfl hb26885 (fun ac hA K hK => ?_) rfl, trivial⟩
          replace hS := hS.pk 1
          obtain ⟨y26886, h26887, hF⟩ := bnd hF
          refine z_call en16 hA (F_files_Store_Used (L := own kS 9 B26747 m26748 d26749 y26745 :: blk g120 53 [.slice A26727 n26728 c26729, .int .i64 x26730, .int .i64 x26731, .bool b26732, .int .i64 x26733] :: own k62 62 A26727 n26728 c26729 l26726 :: own (kI .u8) 5 B26738 m26739 d26740 y26736.1 :: L) o26725 p111 h26887 hS) (fun v w hR => ?_) rfl rfl
          obtain ⟨rfl, hS⟩ := hR
          refine hK _ [] _ rfl ?_
          refine dEff [26] [27] (by kernel_rfl) ⟨puOn rfl rfl rfl rfl [(7, .pointer (some ⟨g120, 0, none⟩)), (192, .bool ((y26745.length : Int) != (l26726.length : Int)))] rfl hb26885 (fun ac hA => y_move hA rfl rfl) rfl, trivial⟩ (by kernel_rfl) (by kernel_rfl) ⟨efOn rfl rfl rfl [(192, .bool ((y26745.length : Int) != (l26726.length : Int))), (195, .pointer (some ⟨g120, 0, none⟩))] rfl hb26885 (fun ac hA K hK => ?_) rfl, trivial⟩
          replace hS := hS.pk 3
          replace hS := hS.pk 3
          obtain ⟨y26888, h26889, hF⟩ := bnd hF
          refine z_call en31 hA (F_r05_Store_Used (L := optP (obj68) p111 o26725 :: own kS 9 B26747 m26748 d26749 y26745 :: own (kI .u8) 5 B26738 m26739 d26740 y26736.1 :: L) (⟨l26726, x26730, x26731, b26732, x26733⟩ : S53) g120 A26727 n26728 c26729 h26889 hS) (fun v w hR => ?_) rfl rfl
          obtain ⟨rfl, hS⟩ := hR
          refine bcase (b := y26886 != y26888) (fun hb26890 => ?_) fun hb26890 => ?_
          · replace hF := ift hb26890 hF
            refine hK _ [(28, .bool (y26886 != y26888)), (29, .bool (y26886 != y26888)), (30, .bool (y26886 != y26888)), (31, undef), (33, undef), (34, undef), (35, undef), (36, undef)] _ rfl ?_
            refine dEff [28, 29, 30, 31, 33, 34, 35, 36] [32] (by kernel_rfl) ⟨puOn rfl rfl rfl rfl [(192, .bool ((y26745.length : Int) != (l26726.length : Int))), (194, .int .i64 y26886), (196, .int .i64 y26888)] rfl hb26885 (fun ac hA => r_neI rfl (hA.ev rfl) (hA.ev rfl)) rfl, pu rfl rfl [(192, .bool ((y26745.length : Int) != (l26726.length : Int))), (197, .bool (y26886 != y26888))] (fun ac hA => y_pickf hb26885 hA rfl rfl rfl) rfl rfl, pu rfl rfl [(198, .bool (y26886 != y26888))] (fun ac hA => y_move hA rfl rfl) rfl rfl, puOff rfl rfl rfl rfl [(5, .pointer p111), (199, .bool (y26886 != y26888))] rfl hb26890 rfl, puOff rfl rfl rfl rfl [(7, .pointer (some ⟨g120, 0, none⟩)), (199, .bool (y26886 != y26888))] rfl hb26890 rfl, puOff rfl rfl rfl rfl [(199, .bool (y26886 != y26888)), (202, undef)] rfl hb26890 rfl, puOff rfl rfl rfl rfl [(199, .bool (y26886 != y26888)), (203, undef)] rfl hb26890 rfl, puOff rfl rfl rfl rfl [(199, .bool (y26886 != y26888)), (204, undef)] rfl hb26890 rfl, trivial⟩ (by kernel_rfl) (by kernel_rfl) ⟨?_, trivial⟩
            refine efOff rfl rfl rfl [(199, .bool (y26886 != y26888)), (200, undef)] rfl [(37, undef), (38, .bool true), (39, .bool true), (40, undef), (42, undef), (43, undef), (44, undef), (45, undef)] hb26890 rfl ?_ rfl
            refine dEff [33, 34, 35, 36, 37, 38, 39, 40, 42, 43, 44, 45] [41] (by kernel_rfl) ⟨puOff rfl rfl rfl rfl [(7, .pointer (some ⟨g120, 0, none⟩)), (199, .bool (y26886 != y26888))] rfl hb26890 rfl, puOff rfl rfl rfl rfl [(199, .bool (y26886 != y26888)), (202, undef)] rfl hb26890 rfl, puOff rfl rfl rfl rfl [(199, .bool (y26886 != y26888)), (203, undef)] rfl hb26890 rfl, puOff rfl rfl rfl rfl [(199, .bool (y26886 != y26888)), (204, undef)] rfl hb26890 rfl, puOff rfl rfl rfl rfl [(199, .bool (y26886 != y26888)), (201, undef), (205, undef)] rfl hb26890 rfl, pu rfl rfl [(199, .bool (y26886 != y26888)), (206, undef)] (fun ac hA => y_pickt hb26890 hA rfl rfl rfl) rfl rfl, pu rfl rfl [(207, .bool true)] (fun ac hA => y_move hA rfl rfl) rfl rfl, puOff rfl rfl rfl rfl [(5, .pointer p111), (208, .bool true)] rfl rfl rfl, puOff rfl rfl rfl rfl [(7, .pointer (some ⟨g120, 0, none⟩)), (208, .bool true)] rfl rfl rfl, puOff rfl rfl rfl rfl [(208, .bool true), (211, undef)] rfl rfl rfl, puOff rfl rfl rfl rfl [(208, .bool true), (212, undef)] rfl rfl rfl, puOff rfl rfl rfl rfl [(208, .bool true), (213, undef)] rfl rfl rfl, trivial⟩ (by kernel_rfl) (by kernel_rfl) ⟨?_, trivial⟩
            refine efOff rfl rfl rfl [(208, .bool true), (209, undef)] rfl [(46, undef), (47, .bool true), (48, .bool true), (49, undef), (51, undef)] rfl rfl ?_ rfl
            refine dEff [42, 43, 44, 45, 46, 47, 48, 49, 51] [50] (by kernel_rfl) ⟨puOff rfl rfl rfl rfl [(7, .pointer (some ⟨g120, 0, none⟩)), (208, .bool true)] rfl rfl rfl, puOff rfl rfl rfl rfl [(208, .bool true), (211, undef)] rfl rfl rfl, puOff rfl rfl rfl rfl [(208, .bool true), (212, undef)] rfl rfl rfl, puOff rfl rfl rfl rfl [(208, .bool true), (213, undef)] rfl rfl rfl, puOff rfl rfl rfl rfl [(208, .bool true), (210, undef), (214, undef)] rfl rfl rfl, pu rfl rfl [(208, .bool true), (215, undef)] (fun ac hA => y_pickt rfl hA rfl rfl rfl) rfl rfl, pu rfl rfl [(216, .bool true)] (fun ac hA => y_move hA rfl rfl) rfl rfl, puOff rfl rfl rfl rfl [(10, str y26456.1), (217, .bool true)] rfl rfl rfl, puOff rfl rfl rfl rfl [(10, str y26456.1), (217, .bool true)] rfl rfl rfl, trivial⟩ (by kernel_rfl) (by kernel_rfl) ⟨?_, trivial⟩
            refine efOff rfl rfl rfl [(217, .bool true), (218, undef)] rfl [] rfl rfl ?_ rfl
            refine dEff [51] [52] (by kernel_rfl) ⟨puOff rfl rfl rfl rfl [(10, str y26456.1), (217, .bool true)] rfl rfl rfl, trivial⟩ (by kernel_rfl) (by kernel_rfl) ⟨?_, trivial⟩
            refine efOff rfl rfl rfl [(217, .bool true), (220, undef)] rfl [(53, undef), (54, .bool true)] rfl rfl ?_ rfl
            refine dEnd [53, 54] (by kernel_rfl) ⟨puOff rfl rfl rfl rfl [(217, .bool true), (219, undef), (221, undef)] rfl rfl rfl, pu rfl rfl [(217, .bool true), (222, undef)] (fun ac hA => y_pickt rfl hA rfl rfl rfl) rfl rfl, trivial⟩ ⟨by kernel_rfl, by kernel_rfl⟩ [(1, .slice A1 n1 c1), (5, .pointer p111), (7, .pointer (some ⟨g120, 0, none⟩)), (8, .int .i64 x22575), (17, .slice B26747 m26748 d26749), (172, .int .i64 y26736.2), (173, .int .i64 y26742.2), (174, .bool (y26736.2 != y26742.2)), (177, .slice B26738 m26739 d26740), (178, str (bts y26736.1)), (179, str y26742.1), (180, .bool (!((bts y26736.1) == y26742.1))), (183, .slice B26747 m26748 d26749), (184, .int .i64 (y26745.length : Int)), (185, .pointer (some ⟨g120, 0, none⟩)), (186, .pointer (some ⟨g120, 0, none⟩)), (187, .pointer (some ⟨g120, 0, none⟩)), (188, .slice A26727 n26728 c26729), (189, .int .i64 (l26726.length : Int)), (190, .bool ((y26745.length : Int) != (l26726.length : Int))), (193, .pointer p111), (194, .int .i64 y26886), (195, .pointer (some ⟨g120, 0, none⟩)), (196, .int .i64 y26888), (197, .bool (y26886 != y26888)), (223, .bool true)] rfl (fun ac hA => ?_)
            replace hS := hS.drop 4
            replace hS := hS.pk 3
            replace hS := hS.pk 2
            replace hS := hS.pk 3
            replace hS := hS.pk 3
            exact hj4 true hF ac w (hA.sub _ rfl) hS
          replace hF := iff' hb26890 hF
          refine hK _ [(28, .bool (y26886 != y26888)), (29, .bool (y26886 != y26888)), (30, .bool (y26886 != y26888)), (31, .pointer p111), (33, .pointer (some ⟨g120, 0, none⟩)), (34, .pointer (some ⟨g120, 0, none⟩)), (35, .pointer (some ⟨g120, 3, none⟩)), (36, .bool b26732)] _ rfl ?_
          refine dEff [28, 29, 30, 31, 33, 34, 35, 36] [32] (by kernel_rfl) ⟨puOn rfl rfl rfl rfl [(192, .bool ((y26745.length : Int) != (l26726.length : Int))), (194, .int .i64 y26886), (196, .int .i64 y26888)] rfl hb26885 (fun ac hA => r_neI rfl (hA.ev rfl) (hA.ev rfl)) rfl, pu rfl rfl [(192, .bool ((y26745.length : Int) != (l26726.length : Int))), (197, .bool (y26886 != y26888))] (fun ac hA => y_pickf hb26885 hA rfl rfl rfl) rfl rfl, pu rfl rfl [(198, .bool (y26886 != y26888))] (fun ac hA => y_move hA rfl rfl) rfl rfl, puOn rfl rfl rfl rfl [(5, .pointer p111), (199, .bool (y26886 != y26888))] rfl hb26890 (fun ac hA => y_move hA rfl rfl) rfl, puOn rfl rfl rfl rfl [(7, .pointer (some ⟨g120, 0, none⟩)), (199, .bool (y26886 != y26888))] rfl hb26890 (fun ac hA => y_move hA rfl rfl) rfl, puOn rfl rfl rfl rfl [(199, .bool (y26886 != y26888)), (202, .pointer (some ⟨g120, 0, none⟩))] rfl hb26890 (fun ac hA => r_nilCheck rfl (hA.ev rfl)) rfl, puOn rfl rfl rfl rfl [(199, .bool (y26886 != y26888)), (203, .pointer (some ⟨g120, 0, none⟩))] rfl hb26890 (fun ac hA => y_fab fa53_3 hA rfl rfl) rfl, puOn rfl rfl rfl rfl [(199, .bool (y26886 != y26888)), (204, .pointer (some ⟨g120, 3, none⟩))] rfl hb26890 (fun ac hA => y_ld Try.underlying4 (hS.cell 0 rfl 3 _ rfl) hA rfl rfl rfl) rfl, trivial⟩ (by kernel_rfl) (by kernel_rfl) ⟨efOn rfl rfl rfl [(199, .bool (y26886 != y26888)), (200, .pointer p111)] rfl hb26890 (fun ac hA K hK => ?_) rfl, trivial⟩
          replace hS := hS.pk 2
          obtain ⟨y26891, h26892, hF⟩ := bnd hF
          refine z_call en23 hA (F_files_Store_On (L := blk g120 53 [.slice A26727 n26728 c26729, .int .i64 x26730, .int .i64 x26731, .bool b26732, .int .i64 x26733] :: own k62 62 A26727 n26728 c26729 l26726 :: own kS 9 B26747 m26748 d26749 y26745 :: own (kI .u8) 5 B26738 m26739 d26740 y26736.1 :: L) o26725 p111 h26892 hS) (fun v w hR => ?_) rfl rfl
          obtain ⟨rfl, hS⟩ := hR
          refine bcase (b := y26891 == b26732) (fun hb26893 => ?_) fun hb26893 => ?_
          · replace hF := ift hb26893 hF
            refine hK _ [(37, .bool (y26891 == b26732)), (38, .bool (y26891 == b26732)), (39, .bool (y26891 == b26732)), (40, undef), (42, undef), (43, undef), (44, undef), (45, undef)] _ rfl ?_
            refine dEff [33, 34, 35, 36, 37, 38, 39, 40, 42, 43, 44, 45] [41] (by kernel_rfl) ⟨puOn rfl rfl rfl rfl [(7, .pointer (some ⟨g120, 0, none⟩)), (199, .bool (y26886 != y26888))] rfl hb26890 (fun ac hA => y_move hA rfl rfl) rfl, puOn rfl rfl rfl rfl [(199, .bool (y26886 != y26888)), (202, .pointer (some ⟨g120, 0, none⟩))] rfl hb26890 (fun ac hA => r_nilCheck rfl (hA.ev rfl)) rfl, puOn rfl rfl rfl rfl [(199, .bool (y26886 != y26888)), (203, .pointer (some ⟨g120, 0, none⟩))] rfl hb26890 (fun ac hA => y_fab fa53_3 hA rfl rfl) rfl, puOn rfl rfl rfl rfl [(199, .bool (y26886 != y26888)), (204, .pointer (some ⟨g120, 3, none⟩))] rfl hb26890 (fun ac hA => y_ld Try.underlying4 (hS.cell 1 rfl 3 _ rfl) hA rfl rfl rfl) rfl, puOn rfl rfl rfl rfl [(199, .bool (y26886 != y26888)), (201, .bool y26891), (205, .bool b26732)] rfl hb26890 (fun ac hA => r_eqB Try.underlying4 rfl (hA.ev rfl) (hA.ev rfl)) rfl, pu rfl rfl [(199, .bool (y26886 != y26888)), (206, .bool (y26891 == b26732))] (fun ac hA => y_pickf hb26890 hA rfl rfl rfl) rfl rfl, pu rfl rfl [(207, .bool (y26891 == b26732))] (fun ac hA => y_move hA rfl rfl) rfl rfl, puOff rfl rfl rfl rfl [(5, .pointer p111), (208, .bool (y26891 == b26732))] rfl hb26893 rfl, puOff rfl rfl rfl rfl [(7, .pointer (some ⟨g120, 0, none⟩)), (208, .bool (y26891 == b26732))] rfl hb26893 rfl, puOff rfl rfl rfl rfl [(208, .bool (y26891 == b26732)), (211, undef)] rfl hb26893 rfl, puOff rfl rfl rfl rfl [(208, .bool (y26891 == b26732)), (212, undef)] rfl hb26893 rfl, puOff rfl rfl rfl rfl [(208, .bool (y26891 == b26732)), (213, undef)] rfl hb26893 rfl, trivial⟩ (by kernel_rfl) (by kernel_rfl) ⟨?_, trivial⟩
            refine efOff rfl rfl rfl [(208, .bool (y26891 == b26732)), (209, undef)] rfl [(46, undef), (47, .bool true), (48, .bool true), (49, undef), (51, undef)] hb26893 rfl ?_ rfl
            refine dEff [42, 43, 44, 45, 46, 47, 48, 49, 51] [50] (by kernel_rfl) ⟨puOff rfl rfl rfl rfl [(7, .pointer (some ⟨g120, 0, none⟩)), (208, .bool (y26891 == b26732))] rfl hb26893 rfl, puOff rfl rfl rfl rfl [(208, .bool (y26891 == b26732)), (211, undef)] rfl hb26893 rfl, puOff rfl rfl rfl rfl [(208, .bool (y26891 == b26732)), (212, undef)] rfl hb26893 rfl, puOff rfl rfl rfl rfl [(208, .bool (y26891 == b26732)), (213, undef)] rfl hb26893 rfl, puOff rfl rfl rfl rfl [(208, .bool (y26891 == b26732)), (210, undef), (214, undef)] rfl hb26893 rfl, pu rfl rfl [(208, .bool (y26891 == b26732)), (215, undef)] (fun ac hA => y_pickt hb26893 hA rfl rfl rfl) rfl rfl, pu rfl rfl [(216, .bool true)] (fun ac hA => y_move hA rfl rfl) rfl rfl, puOff rfl rfl rfl rfl [(10, str y26456.1), (217, .bool true)] rfl rfl rfl, puOff rfl rfl rfl rfl [(10, str y26456.1), (217, .bool true)] rfl rfl rfl, trivial⟩ (by kernel_rfl) (by kernel_rfl) ⟨?_, trivial⟩
            refine efOff rfl rfl rfl [(217, .bool true), (218, undef)] rfl [] rfl rfl ?_ rfl
            refine dEff [51] [52] (by kernel_rfl) ⟨puOff rfl rfl rfl rfl [(10, str y26456.1), (217, .bool true)] rfl rfl rfl, trivial⟩ (by kernel_rfl) (by kernel_rfl) ⟨?_, trivial⟩
            refine efOff rfl rfl rfl [(217, .bool true), (220, undef)] rfl [(53, undef), (54, .bool true)] rfl rfl ?_ rfl
            refine dEnd [53, 54] (by kernel_rfl) ⟨puOff rfl rfl rfl rfl [(217, .bool true), (219, undef), (221, undef)] rfl rfl rfl, pu rfl rfl [(217, .bool true), (222, undef)] (fun ac hA => y_pickt rfl hA rfl rfl rfl) rfl rfl, trivial⟩ ⟨by kernel_rfl, by kernel_rfl⟩ [(1, .slice A1 n1 c1), (5, .pointer p111), (7, .pointer (some ⟨g120, 0, none⟩)), (8, .int .i64 x22575), (17, .slice B26747 m26748 d26749), (172, .int .i64 y26736.2), (173, .int .i64 y26742.2), (174, .bool (y26736.2 != y26742.2)), (177, .slice B26738 m26739 d26740), (178, str (bts y26736.1)), (179, str y26742.1), (180, .bool (!((bts y26736.1) == y26742.1))), (183, .slice B26747 m26748 d26749), (184, .int .i64 (y26745.length : Int)), (185, .pointer (some ⟨g120, 0, none⟩)), (186, .pointer (some ⟨g120, 0, none⟩)), (187, .pointer (some ⟨g120, 0, none⟩)), (188, .slice A26727 n26728 c26729), (189, .int .i64 (l26726.length : Int)), (190, .bool ((y26745.length : Int) != (l26726.length : Int))), (193, .pointer p111), (194, .int .i64 y26886), (195, .pointer (some ⟨g120, 0, none⟩)), (196, .int .i64 y26888), (197, .bool (y26886 != y26888)), (200, .pointer p111), (201, .bool y26891), (202, .pointer (some ⟨g120, 0, none⟩)), (203, .pointer (some ⟨g120, 0, none⟩)), (204, .pointer (some ⟨g120, 3, none⟩)), (205, .bool b26732), (206, .bool (y26891 == b26732)), (223, .bool true)] rfl (fun ac hA => ?_)
            replace hS := hS.drop 4
            replace hS := hS.pk 3
            replace hS := hS.pk 3
            replace hS := hS.pk 2
            replace hS := hS.pk 3
            exact hj4 true hF ac w (hA.sub _ rfl) hS
          replace hF := iff' hb26893 hF
          refine hK _ [(37, .bool (y26891 == b26732)), (38, .bool (y26891 == b26732)), (39, .bool (y26891 == b26732)), (40, .pointer p111), (42, .pointer (some ⟨g120, 0, none⟩)), (43, .pointer (some ⟨g120, 0, none⟩)), (44, .pointer (some ⟨g120, 4, none⟩)), (45, .int .i64 x26733)] _ rfl ?_
          refine dEff [33, 34, 35, 36, 37, 38, 39, 40, 42, 43, 44, 45] [41] (by kernel_rfl) ⟨puOn rfl rfl rfl rfl [(7, .pointer (some ⟨g120, 0, none⟩)), (199, .bool (y26886 != y26888))] rfl hb26890 (fun ac hA => y_move hA rfl rfl) rfl, puOn rfl rfl rfl rfl [(199, .bool (y26886 != y26888)), (202, .pointer (some ⟨g120, 0, none⟩))] rfl hb26890 (fun ac hA => r_nilCheck rfl (hA.ev rfl)) rfl, puOn rfl rfl rfl rfl [(199, .bool (y26886 != y26888)), (203, .pointer (some ⟨g120, 0, none⟩))] rfl hb26890 (fun ac hA => y_fab fa53_3 hA rfl rfl) rfl, puOn rfl rfl rfl rfl [(199, .bool (y26886 != y26888)), (204, .pointer (some ⟨g120, 3, none⟩))] rfl hb26890 (fun ac hA => y_ld Try.underlying4 (hS.cell 1 rfl 3 _ rfl) hA rfl rfl rfl) rfl, puOn rfl rfl rfl rfl [(199, .bool (y26886 != y26888)), (201, .bool y26891), (205, .bool b26732)] rfl hb26890 (fun ac hA => r_eqB Try.underlying4 rfl (hA.ev rfl) (hA.ev rfl)) rfl, pu rfl rfl [(199, .bool (y26886 != y26888)), (206, .bool (y26891 == b26732))] (fun ac hA => y_pickf hb26890 hA rfl rfl rfl) rfl rfl, pu rfl rfl [(207, .bool (y26891 == b26732))] (fun ac hA => y_move hA rfl rfl) rfl rfl, puOn rfl rfl rfl rfl [(5, .pointer p111), (208, .bool (y26891 == b26732))] rfl hb26893 (fun ac hA => y_move hA rfl rfl) rfl, puOn rfl rfl rfl rfl [(7, .pointer (some ⟨g120, 0, none⟩)), (208, .bool (y26891 == b26732))] rfl hb26893 (fun ac hA => y_move hA rfl rfl) rfl, puOn rfl rfl rfl rfl [(208, .bool (y26891 == b26732)), (211, .pointer (some ⟨g120, 0, none⟩))] rfl hb26893 (fun ac hA => r_nilCheck rfl (hA.ev rfl)) rfl, puOn rfl rfl rfl rfl [(208, .bool (y26891 == b26732)), (212, .pointer (some ⟨g120, 0, none⟩))] rfl hb26893 (fun ac hA => y_fab fa53_4 hA rfl rfl) rfl, puOn rfl rfl rfl rfl [(208, .bool (y26891 == b26732)), (213, .pointer (some ⟨g120, 4, none⟩))] rfl hb26893 (fun ac hA => y_ld Try.underlying3 (hS.cell 1 rfl 4 _ rfl) hA rfl rfl rfl) rfl, trivial⟩ (by kernel_rfl) (by kernel_rfl) ⟨efOn rfl rfl rfl [(208, .bool (y26891 == b26732)), (209, .pointer p111)] rfl hb26893 (fun ac hA K hK => ?_) rfl, trivial⟩
          obtain ⟨y26894, h26895, hF⟩ := bnd hF
          refine z_call en32 hA (F_files_Store_Ops (L := blk g120 53 [.slice A26727 n26728 c26729, .int .i64 x26730, .int .i64 x26731, .bool b26732, .int .i64 x26733] :: own k62 62 A26727 n26728 c26729 l26726 :: own kS 9 B26747 m26748 d26749 y26745 :: own (kI .u8) 5 B26738 m26739 d26740 y26736.1 :: L) o26725 p111 h26895 hS) (fun v w hR => ?_) rfl rfl
          obtain ⟨rfl, hS⟩ := hR
          refine bcase (b := y26894 != x26733) (fun hb26896 => ?_) fun hb26896 => ?_
          · replace hF := ift hb26896 hF
            refine hK _ [(46, .bool (y26894 != x26733)), (47, .bool (y26894 != x26733)), (48, .bool (y26894 != x26733)), (49, undef), (51, undef)] _ rfl ?_
            refine dEff [42, 43, 44, 45, 46, 47, 48, 49, 51] [50] (by kernel_rfl) ⟨puOn rfl rfl rfl rfl [(7, .pointer (some ⟨g120, 0, none⟩)), (208, .bool (y26891 == b26732))] rfl hb26893 (fun ac hA => y_move hA rfl rfl) rfl, puOn rfl rfl rfl rfl [(208, .bool (y26891 == b26732)), (211, .pointer (some ⟨g120, 0, none⟩))] rfl hb26893 (fun ac hA => r_nilCheck rfl (hA.ev rfl)) rfl, puOn rfl rfl rfl rfl [(208, .bool (y26891 == b26732)), (212, .pointer (some ⟨g120, 0, none⟩))] rfl hb26893 (fun ac hA => y_fab fa53_4 hA rfl rfl) rfl, puOn rfl rfl rfl rfl [(208, .bool (y26891 == b26732)), (213, .pointer (some ⟨g120, 4, none⟩))] rfl hb26893 (fun ac hA => y_ld Try.underlying3 (hS.cell 1 rfl 4 _ rfl) hA rfl rfl rfl) rfl, puOn rfl rfl rfl rfl [(208, .bool (y26891 == b26732)), (210, .int .i64 y26894), (214, .int .i64 x26733)] rfl hb26893 (fun ac hA => r_neI rfl (hA.ev rfl) (hA.ev rfl)) rfl, pu rfl rfl [(208, .bool (y26891 == b26732)), (215, .bool (y26894 != x26733))] (fun ac hA => y_pickf hb26893 hA rfl rfl rfl) rfl rfl, pu rfl rfl [(216, .bool (y26894 != x26733))] (fun ac hA => y_move hA rfl rfl) rfl rfl, puOff rfl rfl rfl rfl [(10, str y26456.1), (217, .bool (y26894 != x26733))] rfl hb26896 rfl, puOff rfl rfl rfl rfl [(10, str y26456.1), (217, .bool (y26894 != x26733))] rfl hb26896 rfl, trivial⟩ (by kernel_rfl) (by kernel_rfl) ⟨?_, trivial⟩
            refine efOff rfl rfl rfl [(217, .bool (y26894 != x26733)), (218, undef)] rfl [] hb26896 rfl ?_ rfl
            refine dEff [51] [52] (by kernel_rfl) ⟨puOff rfl rfl rfl rfl [(10, str y26456.1), (217, .bool (y26894 != x26733))] rfl hb26896 rfl, trivial⟩ (by kernel_rfl) (by kernel_rfl) ⟨?_, trivial⟩
            refine efOff rfl rfl rfl [(217, .bool (y26894 != x26733)), (220, undef)] rfl [(53, undef), (54, .bool true)] hb26896 rfl ?_ rfl
            refine dEnd [53, 54] (by kernel_rfl) ⟨puOff rfl rfl rfl rfl [(217, .bool (y26894 != x26733)), (219, undef), (221, undef)] rfl hb26896 rfl, pu rfl rfl [(217, .bool (y26894 != x26733)), (222, undef)] (fun ac hA => y_pickt hb26896 hA rfl rfl rfl) rfl rfl, trivial⟩ ⟨by kernel_rfl, by kernel_rfl⟩ [(1, .slice A1 n1 c1), (5, .pointer p111), (7, .pointer (some ⟨g120, 0, none⟩)), (8, .int .i64 x22575), (17, .slice B26747 m26748 d26749), (172, .int .i64 y26736.2), (173, .int .i64 y26742.2), (174, .bool (y26736.2 != y26742.2)), (177, .slice B26738 m26739 d26740), (178, str (bts y26736.1)), (179, str y26742.1), (180, .bool (!((bts y26736.1) == y26742.1))), (183, .slice B26747 m26748 d26749), (184, .int .i64 (y26745.length : Int)), (185, .pointer (some ⟨g120, 0, none⟩)), (186, .pointer (some ⟨g120, 0, none⟩)), (187, .pointer (some ⟨g120, 0, none⟩)), (188, .slice A26727 n26728 c26729), (189, .int .i64 (l26726.length : Int)), (190, .bool ((y26745.length : Int) != (l26726.length : Int))), (193, .pointer p111), (194, .int .i64 y26886), (195, .pointer (some ⟨g120, 0, none⟩)), (196, .int .i64 y26888), (197, .bool (y26886 != y26888)), (200, .pointer p111), (201, .bool y26891), (202, .pointer (some ⟨g120, 0, none⟩)), (203, .pointer (some ⟨g120, 0, none⟩)), (204, .pointer (some ⟨g120, 3, none⟩)), (205, .bool b26732), (206, .bool (y26891 == b26732)), (209, .pointer p111), (210, .int .i64 y26894), (211, .pointer (some ⟨g120, 0, none⟩)), (212, .pointer (some ⟨g120, 0, none⟩)), (213, .pointer (some ⟨g120, 4, none⟩)), (214, .int .i64 x26733), (215, .bool (y26894 != x26733)), (223, .bool true)] rfl (fun ac hA => ?_)
            replace hS := hS.drop 4
            replace hS := hS.pk 3
            replace hS := hS.pk 3
            replace hS := hS.pk 2
            replace hS := hS.pk 3
            exact hj4 true hF ac w (hA.sub _ rfl) hS
          replace hF := iff' hb26896 hF
          refine hK _ [(46, .bool (y26894 != x26733)), (47, .bool (y26894 != x26733)), (48, .bool (y26894 != x26733)), (49, str y26456.1), (51, str y26456.1)] _ rfl ?_
          refine dEff [42, 43, 44, 45, 46, 47, 48, 49, 51] [50] (by kernel_rfl) ⟨puOn rfl rfl rfl rfl [(7, .pointer (some ⟨g120, 0, none⟩)), (208, .bool (y26891 == b26732))] rfl hb26893 (fun ac hA => y_move hA rfl rfl) rfl, puOn rfl rfl rfl rfl [(208, .bool (y26891 == b26732)), (211, .pointer (some ⟨g120, 0, none⟩))] rfl hb26893 (fun ac hA => r_nilCheck rfl (hA.ev rfl)) rfl, puOn rfl rfl rfl rfl [(208, .bool (y26891 == b26732)), (212, .pointer (some ⟨g120, 0, none⟩))] rfl hb26893 (fun ac hA => y_fab fa53_4 hA rfl rfl) rfl, puOn rfl rfl rfl rfl [(208, .bool (y26891 == b26732)), (213, .pointer (some ⟨g120, 4, none⟩))] rfl hb26893 (fun ac hA => y_ld Try.underlying3 (hS.cell 1 rfl 4 _ rfl) hA rfl rfl rfl) rfl, puOn rfl rfl rfl rfl [(208, .bool (y26891 == b26732)), (210, .int .i64 y26894), (214, .int .i64 x26733)] rfl hb26893 (fun ac hA => r_neI rfl (hA.ev rfl) (hA.ev rfl)) rfl, pu rfl rfl [(208, .bool (y26891 == b26732)), (215, .bool (y26894 != x26733))] (fun ac hA => y_pickf hb26893 hA rfl rfl rfl) rfl rfl, pu rfl rfl [(216, .bool (y26894 != x26733))] (fun ac hA => y_move hA rfl rfl) rfl rfl, puOn rfl rfl rfl rfl [(10, str y26456.1), (217, .bool (y26894 != x26733))] rfl hb26896 (fun ac hA => y_move hA rfl rfl) rfl, puOn rfl rfl rfl rfl [(10, str y26456.1), (217, .bool (y26894 != x26733))] rfl hb26896 (fun ac hA => y_move hA rfl rfl) rfl, trivial⟩ (by kernel_rfl) (by kernel_rfl) ⟨efOn rfl rfl rfl [(217, .bool (y26894 != x26733)), (218, str y26456.1)] rfl hb26896 (fun ac hA K hK => ?_) rfl, trivial⟩
          obtain ⟨y26897, h26898, hF⟩ := bnd hF
          refine z_call en21 hA (F_files_Form (L := optP (obj68) p111 o26725 :: blk g120 53 [.slice A26727 n26728 c26729, .int .i64 x26730, .int .i64 x26731, .bool b26732, .int .i64 x26733] :: own k62 62 A26727 n26728 c26729 l26726 :: own kS 9 B26747 m26748 d26749 y26745 :: own (kI .u8) 5 B26738 m26739 d26740 y26736.1 :: L) y26456.1 h26898 hS) (fun v w hR => ?_) rfl rfl
          obtain ⟨rfl, hS⟩ := hR
          refine hK _ [] _ rfl ?_
          refine dEff [51] [52] (by kernel_rfl) ⟨puOn rfl rfl rfl rfl [(10, str y26456.1), (217, .bool (y26894 != x26733))] rfl hb26896 (fun ac hA => y_move hA rfl rfl) rfl, trivial⟩ (by kernel_rfl) (by kernel_rfl) ⟨efOn rfl rfl rfl [(217, .bool (y26894 != x26733)), (220, str y26456.1)] rfl hb26896 (fun ac hA K hK => ?_) rfl, trivial⟩
          obtain ⟨y26899, h26900, hF⟩ := bnd hF
          refine z_call en33 hA (F_r05_Form (L := optP (obj68) p111 o26725 :: blk g120 53 [.slice A26727 n26728 c26729, .int .i64 x26730, .int .i64 x26731, .bool b26732, .int .i64 x26733] :: own k62 62 A26727 n26728 c26729 l26726 :: own kS 9 B26747 m26748 d26749 y26745 :: own (kI .u8) 5 B26738 m26739 d26740 y26736.1 :: L) y26456.1 h26900 hS) (fun v w hR => ?_) rfl rfl
          obtain ⟨rfl, hS⟩ := hR
          refine hK _ [(53, .bool (!(y26897 == y26899))), (54, .bool (!(y26897 == y26899)))] _ rfl ?_
          refine dEnd [53, 54] (by kernel_rfl) ⟨puOn rfl rfl rfl rfl [(217, .bool (y26894 != x26733)), (219, .bool y26897), (221, .bool y26899)] rfl hb26896 (fun ac hA => r_neB Try.underlying4 rfl (hA.ev rfl) (hA.ev rfl)) rfl, pu rfl rfl [(217, .bool (y26894 != x26733)), (222, .bool (!(y26897 == y26899)))] (fun ac hA => y_pickf hb26896 hA rfl rfl rfl) rfl rfl, trivial⟩ ⟨by kernel_rfl, by kernel_rfl⟩ [(1, .slice A1 n1 c1), (5, .pointer p111), (7, .pointer (some ⟨g120, 0, none⟩)), (8, .int .i64 x22575), (17, .slice B26747 m26748 d26749), (172, .int .i64 y26736.2), (173, .int .i64 y26742.2), (174, .bool (y26736.2 != y26742.2)), (177, .slice B26738 m26739 d26740), (178, str (bts y26736.1)), (179, str y26742.1), (180, .bool (!((bts y26736.1) == y26742.1))), (183, .slice B26747 m26748 d26749), (184, .int .i64 (y26745.length : Int)), (185, .pointer (some ⟨g120, 0, none⟩)), (186, .pointer (some ⟨g120, 0, none⟩)), (187, .pointer (some ⟨g120, 0, none⟩)), (188, .slice A26727 n26728 c26729), (189, .int .i64 (l26726.length : Int)), (190, .bool ((y26745.length : Int) != (l26726.length : Int))), (193, .pointer p111), (194, .int .i64 y26886), (195, .pointer (some ⟨g120, 0, none⟩)), (196, .int .i64 y26888), (197, .bool (y26886 != y26888)), (200, .pointer p111), (201, .bool y26891), (202, .pointer (some ⟨g120, 0, none⟩)), (203, .pointer (some ⟨g120, 0, none⟩)), (204, .pointer (some ⟨g120, 3, none⟩)), (205, .bool b26732), (206, .bool (y26891 == b26732)), (209, .pointer p111), (210, .int .i64 y26894), (211, .pointer (some ⟨g120, 0, none⟩)), (212, .pointer (some ⟨g120, 0, none⟩)), (213, .pointer (some ⟨g120, 4, none⟩)), (214, .int .i64 x26733), (215, .bool (y26894 != x26733)), (218, str y26456.1), (219, .bool y26897), (220, str y26456.1), (221, .bool y26899), (222, .bool (!(y26897 == y26899))), (223, .bool (!(y26897 == y26899)))] rfl (fun ac hA => ?_)
          replace hS := hS.drop 4
          replace hS := hS.pk 3
          replace hS := hS.pk 3
          replace hS := hS.pk 2
          replace hS := hS.pk 3
          exact hj4 (!(y26897 == y26899)) hF ac w (hA.sub _ rfl) hS
        refine wp_seq_k fun K26901 hK26901 => ?_
        have hj5 : ∀ (b26908 : Bool), law05_FilesPlays_j5 o22566 l22567 x22571 x22572 b22573 x22574 x22575 x26439 y26456 x26640 b26908 = some o24790 → ∀ (ac : Act) (w : World), FR 284 [] ac [(1, .slice A1 n1 c1), (5, .pointer p111), (7, .pointer (some ⟨g120, 0, none⟩)), (8, .int .i64 x22575), (9, .pointer (some ⟨g26450, 0, none⟩)), (10, str y26456.1), (11, str y26456.2), (12, .bool true), (69, .int .u8 x26640), (70, .bool b26908)] → SH r (blk g120 53 [.slice A22568 n22569 c22570, .int .i64 x22571, .int .i64 x22572, .bool b22573, .int .i64 x22574] :: blk g26450 45 [.int .u8 x26439.f0, .int .u8 x26439.f1, .int .u8 x26439.f2, str x26439.f3, .slice A26442 n26443 c26444, .int .i64 x26439.f5, .slice A26446 n26447 c26448] :: optP (obj68) p111 o22566 :: own k62 62 A22568 n22569 c22570 l22567 :: L) w → K26901 ac w := by
          intro b26908 hF ac w hA hS
          unfold law05_FilesPlays_j5 at hF
          refine hK26901 _ _ ?_
          refine c_if hA rfl (fun hb26909 => ?_) fun hb26909 => ?_
          · replace hF := ift hb26909 hF
            refine wp_draw [0, 0, 0, 4, 15, 0, 0, 0, 128, 511, 1023, 2047] [4, 9] rfl hA hS (by kernel_rfl) (by kernel_rfl) (by kernel_rfl) (by kernel_rfl) fun w hS => ?_
            refine ⟨[(0, .pointer p111), (1, str y26456.1), (2, .pointer (some ⟨g26450, 4, none⟩)), (3, .slice A26442 n26443 c26444), (5, .pointer (some ⟨g120, 0, none⟩)), (6, str y26456.1), (7, .pointer (some ⟨g26450, 4, none⟩)), (8, .slice A26442 n26443 c26444)], ?_⟩
            refine dEff [0, 1, 2, 3, 5, 6, 7, 8] [4] (by kernel_rfl) ⟨pu rfl rfl [(5, .pointer p111)] (fun ac hA => y_move hA rfl rfl) rfl rfl, pu rfl rfl [(10, str y26456.1)] (fun ac hA => y_move hA rfl rfl) rfl rfl, pu rfl rfl [(9, .pointer (some ⟨g26450, 0, none⟩))] (fun ac hA => y_fab fa45_4 hA rfl rfl) rfl rfl, pu rfl rfl [(77, .pointer (some ⟨g26450, 4, none⟩))] (fun ac hA => y_ld Try.underlying22 (hS.cell 1 rfl 4 _ rfl) hA rfl rfl rfl) rfl rfl, pu rfl rfl [(7, .pointer (some ⟨g120, 0, none⟩))] (fun ac hA => y_move hA rfl rfl) rfl rfl, pu rfl rfl [(10, str y26456.1)] (fun ac hA => y_move hA rfl rfl) rfl rfl, pu rfl rfl [(9, .pointer (some ⟨g26450, 0, none⟩))] (fun ac hA => y_fab fa45_4 hA rfl rfl) rfl rfl, pu rfl rfl [(82, .pointer (some ⟨g26450, 4, none⟩))] (fun ac hA => y_ld Try.underlying22 (hS.cell 1 rfl 4 _ rfl) hA rfl rfl rfl) rfl rfl, trivial⟩ (by kernel_rfl) (by kernel_rfl) ⟨ef rfl [(75, .pointer p111), (76, str y26456.1), (78, .slice A26442 n26443 c26444)] (fun ac hA K hK => ?_) rfl rfl, trivial⟩
            replace hS := hS.pk 2
            obtain ⟨y26910, h26911, hF⟩ := bnd hF
            refine z_call en12 hA (F_files_Store_Append (L := blk g120 53 [.slice A22568 n22569 c22570, .int .i64 x22571, .int .i64 x22572, .bool b22573, .int .i64 x22574] :: blk g26450 45 [.int .u8 x26439.f0, .int .u8 x26439.f1, .int .u8 x26439.f2, str x26439.f3, .slice A26442 n26443 c26444, .int .i64 x26439.f5, .slice A26446 n26447 c26448] :: own k62 62 A22568 n22569 c22570 l22567 :: L) o22566 y26456.1 x26439.f4 p111 A26442 n26443 c26444 h26911 (RdL.sfx 3 rfl (h26445.rdl qz hZ)) hS) (fun v w hR => ?_) rfl rfl
            obtain ⟨rfl, hS⟩ := hR
            refine hK _ [] _ rfl ?_
            refine dEff [5, 6, 7, 8] [9] (by kernel_rfl) ⟨pu rfl rfl [(7, .pointer (some ⟨g120, 0, none⟩))] (fun ac hA => y_move hA rfl rfl) rfl rfl, pu rfl rfl [(10, str y26456.1)] (fun ac hA => y_move hA rfl rfl) rfl rfl, pu rfl rfl [(9, .pointer (some ⟨g26450, 0, none⟩))] (fun ac hA => y_fab fa45_4 hA rfl rfl) rfl rfl, pu rfl rfl [(82, .pointer (some ⟨g26450, 4, none⟩))] (fun ac hA => y_ld Try.underlying22 (hS.cell 2 rfl 4 _ rfl) hA rfl rfl rfl) rfl rfl, trivial⟩ (by kernel_rfl) (by kernel_rfl) ⟨ef rfl [(80, .pointer (some ⟨g120, 0, none⟩)), (81, str y26456.1), (83, .slice A26442 n26443 c26444)] (fun ac hA K hK => ?_) rfl rfl, trivial⟩
            replace hS := hS.pk 3
            replace hS := hS.pk 2
            replace hS := obj53_mk (x := (⟨l22567, x22571, x22572, b22573, x22574⟩ : S53)) hS
            obtain ⟨y26912, h26913, hF⟩ := bnd hF
            refine z_call en24 hA (F_r05_Store_Append (L := optP (obj68) p111 y26910.2 :: blk g26450 45 [.int .u8 x26439.f0, .int .u8 x26439.f1, .int .u8 x26439.f2, str x26439.f3, .slice A26442 n26443 c26444, .int .i64 x26439.f5, .slice A26446 n26447 c26448] :: L) (⟨l22567, x22571, x22572, b22573, x22574⟩ : S53) y26456.1 x26439.f4 g120 A26442 n26443 c26444 h26913 (RdL.sfx 2 rfl (h26445.rdl qz hZ)) hS) (fun v w hR => ?_) rfl rfl
            obtain ⟨rfl, hS⟩ := hR
            obtain ⟨A26914, n26915, c26916, hS⟩ := obj53_open hS
            refine hK _ [(10, .bool (y26910.1 == y26912.1)), (11, .bool (y26910.1 == y26912.1))] _ rfl ?_
            refine dEnd [10, 11] (by kernel_rfl) ⟨pu rfl rfl [(79, .int .i64 y26910.1), (84, .int .i64 y26912.1)] (fun ac hA => r_eqI rfl (hA.ev rfl) (hA.ev rfl)) rfl rfl, pu rfl rfl [(85, .bool (y26910.1 == y26912.1))] (fun ac hA => y_assign hA rfl rfl) rfl rfl, trivial⟩ ⟨by kernel_rfl, by kernel_rfl⟩ [(1, .slice A1 n1 c1), (5, .pointer p111), (7, .pointer (some ⟨g120, 0, none⟩)), (8, .int .i64 x22575), (10, str y26456.1), (11, str y26456.2), (12, .bool (y26910.1 == y26912.1))] rfl (fun ac hA => ?_)
            replace hS := hS.drop 3
            replace hS := hS.pk 1
            replace hS := hS.pk 2
            replace hS := hS.pk 2
            exact hb3 y26910.2 y26912.2.f0 y26912.2.f1 y26912.2.f2 y26912.2.f3 y26912.2.f4 (y26910.1 == y26912.1) hF A26914 n26915 c26916 ac w (hA.sub _ rfl) hS
          replace hF := iff' hb26909 hF
          refine wp_seq_k fun K26917 hK26917 => ?_
          have hj6 : ∀ (b26920 : Bool), law05_FilesPlays_j6 o22566 l22567 x22571 x22572 b22573 x22574 x22575 x26439 y26456 x26640 b26920 = some o24790 → ∀ (ac : Act) (w : World), FR 284 [] ac [(1, .slice A1 n1 c1), (5, .pointer p111), (7, .pointer (some ⟨g120, 0, none⟩)), (8, .int .i64 x22575), (9, .pointer (some ⟨g26450, 0, none⟩)), (10, str y26456.1), (11, str y26456.2), (12, .bool true), (69, .int .u8 x26640), (86, .bool b26920)] → SH r (blk g120 53 [.slice A22568 n22569 c22570, .int .i64 x22571, .int .i64 x22572, .bool b22573, .int .i64 x22574] :: blk g26450 45 [.int .u8 x26439.f0, .int .u8 x26439.f1, .int .u8 x26439.f2, str x26439.f3, .slice A26442 n26443 c26444, .int .i64 x26439.f5, .slice A26446 n26447 c26448] :: optP (obj68) p111 o22566 :: own k62 62 A22568 n22569 c22570 l22567 :: L) w → K26917 ac w := by
            intro b26920 hF ac w hA hS
            unfold law05_FilesPlays_j6 at hF
            refine hK26917 _ _ ?_
            refine c_if hA rfl (fun hb26921 => ?_) fun hb26921 => ?_
            · replace hF := ift hb26921 hF
              refine wp_reg ?_
              refine x_move hA (fun ac hA => ?_) rfl rfl rfl rfl rfl
              refine x_move hA (fun ac hA => ?_) rfl rfl rfl rfl rfl
              replace hS := hS.pk 2
              obtain ⟨y26922, h26923, hF⟩ := bnd hF
              refine x_call en17 hA (F_files_Store_Sync (L := blk g120 53 [.slice A22568 n22569 c22570, .int .i64 x22571, .int .i64 x22572, .bool b22573, .int .i64 x22574] :: blk g26450 45 [.int .u8 x26439.f0, .int .u8 x26439.f1, .int .u8 x26439.f2, str x26439.f3, .slice A26442 n26443 c26444, .int .i64 x26439.f5, .slice A26446 n26447 c26448] :: own k62 62 A22568 n22569 c22570 l22567 :: L) o22566 y26456.1 p111 h26923 hS) (fun v ac w hR hA => ?_) rfl rfl rfl rfl rfl
              obtain ⟨rfl, hS⟩ := hR
              refine x_move hA (fun ac hA => ?_) rfl rfl rfl rfl rfl
              refine x_move hA (fun ac hA => ?_) rfl rfl rfl rfl rfl
              replace hS := hS.pk 3
              replace hS := hS.pk 2
              replace hS := obj53_mk (x := (⟨l22567, x22571, x22572, b22573, x22574⟩ : S53)) hS
              obtain ⟨y26924, h26925, hF⟩ := bnd hF
              refine x_call en25 hA (F_r05_Store_Sync (L := optP (obj68) p111 y26922.2 :: blk g26450 45 [.int .u8 x26439.f0, .int .u8 x26439.f1, .int .u8 x26439.f2, str x26439.f3, .slice A26442 n26443 c26444, .int .i64 x26439.f5, .slice A26446 n26447 c26448] :: L) (⟨l22567, x22571, x22572, b22573, x22574⟩ : S53) y26456.1 g120 h26925 hS) (fun v ac w hR hA => ?_) rfl rfl rfl rfl rfl
              obtain ⟨rfl, hS⟩ := hR
              obtain ⟨A26926, n26927, c26928, hS⟩ := obj53_open hS
              refine x_val hA (r_eqI rfl (hA.ev rfl) (hA.ev rfl)) (fun ac hA => ?_) rfl rfl rfl
              refine x_assign hA (fun ac hA => ?_) rfl rfl rfl rfl rfl
              refine wpList_nil ?_
              replace hS := hS.drop 3
              replace hS := hS.pk 1
              replace hS := hS.pk 2
              replace hS := hS.pk 2
              exact hb3 y26922.2 y26924.2.f0 y26924.2.f1 y26924.2.f2 y26924.2.f3 y26924.2.f4 (y26922.1 == y26924.1) hF A26926 n26927 c26928 ac w (hA.sub _ rfl) hS
            replace hF := iff' hb26921 hF
            refine wp_seq_k fun K26929 hK26929 => ?_
            refine wp_reg ?_
            refine x_val hA (r_eqI rfl (hA.ev rfl) (hA.ev rfl)) (fun ac hA => ?_) rfl rfl rfl
            refine x_assign hA (fun ac hA => ?_) rfl rfl rfl rfl rfl
            refine wpList_nil ?_
            refine hK26929 _ _ ?_
            refine c_if hA rfl (fun hb26930 => ?_) fun hb26930 => ?_
            · replace hF := ift hb26930 hF
              refine wp_reg ?_
              refine x_move hA (fun ac hA => ?_) rfl rfl rfl rfl rfl
              refine x_move hA (fun ac hA => ?_) rfl rfl rfl rfl rfl
              refine x_move hA (fun ac hA => ?_) rfl rfl rfl rfl rfl
              replace hS := hS.pk 2
              obtain ⟨y26931, h26932, hF⟩ := bnd hF
              refine x_call en18 hA (F_files_Store_Rename (L := blk g120 53 [.slice A22568 n22569 c22570, .int .i64 x22571, .int .i64 x22572, .bool b22573, .int .i64 x22574] :: blk g26450 45 [.int .u8 x26439.f0, .int .u8 x26439.f1, .int .u8 x26439.f2, str x26439.f3, .slice A26442 n26443 c26444, .int .i64 x26439.f5, .slice A26446 n26447 c26448] :: own k62 62 A22568 n22569 c22570 l22567 :: L) o22566 y26456.1 y26456.2 p111 h26932 hS) (fun v ac w hR hA => ?_) rfl rfl rfl rfl rfl
              obtain ⟨rfl, hS⟩ := hR
              refine x_move hA (fun ac hA => ?_) rfl rfl rfl rfl rfl
              refine x_move hA (fun ac hA => ?_) rfl rfl rfl rfl rfl
              refine x_move hA (fun ac hA => ?_) rfl rfl rfl rfl rfl
              replace hS := hS.pk 3
              replace hS := hS.pk 2
              replace hS := obj53_mk (x := (⟨l22567, x22571, x22572, b22573, x22574⟩ : S53)) hS
              obtain ⟨y26933, h26934, hF⟩ := bnd hF
              refine x_call en26 hA (F_r05_Store_Rename (L := optP (obj68) p111 y26931.2 :: blk g26450 45 [.int .u8 x26439.f0, .int .u8 x26439.f1, .int .u8 x26439.f2, str x26439.f3, .slice A26442 n26443 c26444, .int .i64 x26439.f5, .slice A26446 n26447 c26448] :: L) (⟨l22567, x22571, x22572, b22573, x22574⟩ : S53) y26456.1 y26456.2 g120 h26934 hS) (fun v ac w hR hA => ?_) rfl rfl rfl rfl rfl
              obtain ⟨rfl, hS⟩ := hR
              obtain ⟨A26935, n26936, c26937, hS⟩ := obj53_open hS
              refine x_val hA (r_eqI rfl (hA.ev rfl) (hA.ev rfl)) (fun ac hA => ?_) rfl rfl rfl
              refine x_assign hA (fun ac hA => ?_) rfl rfl rfl rfl rfl
              refine wpList_nil ?_
              replace hS := hS.drop 3
              replace hS := hS.pk 1
              replace hS := hS.pk 2
              replace hS := hS.pk 2
              exact hb3 y26931.2 y26933.2.f0 y26933.2.f1 y26933.2.f2 y26933.2.f3 y26933.2.f4 (y26931.1 == y26933.1) hF A26935 n26936 c26937 ac w (hA.sub _ rfl) hS
            replace hF := iff' hb26930 hF
            refine wp_seq_k fun K26938 hK26938 => ?_
            refine wp_reg ?_
            refine x_val hA (r_eqI rfl (hA.ev rfl) (hA.ev rfl)) (fun ac hA => ?_) rfl rfl rfl
            refine x_assign hA (fun ac hA => ?_) rfl rfl rfl rfl rfl
            refine wpList_nil ?_
            refine hK26938 _ _ ?_
            refine c_if hA rfl (fun hb26939 => ?_) fun hb26939 => ?_
            · replace hF := ift hb26939 hF
              refine wp_reg ?_
              refine x_move hA (fun ac hA => ?_) rfl rfl rfl rfl rfl
              refine x_move hA (fun ac hA => ?_) rfl rfl rfl rfl rfl
              replace hS := hS.pk 2
              obtain ⟨y26940, h26941, hF⟩ := bnd hF
              refine x_call en15 hA (F_files_Store_Delete (L := blk g120 53 [.slice A22568 n22569 c22570, .int .i64 x22571, .int .i64 x22572, .bool b22573, .int .i64 x22574] :: blk g26450 45 [.int .u8 x26439.f0, .int .u8 x26439.f1, .int .u8 x26439.f2, str x26439.f3, .slice A26442 n26443 c26444, .int .i64 x26439.f5, .slice A26446 n26447 c26448] :: own k62 62 A22568 n22569 c22570 l22567 :: L) o22566 y26456.1 p111 h26941 hS) (fun v ac w hR hA => ?_) rfl rfl rfl rfl rfl
              obtain ⟨rfl, hS⟩ := hR
              refine x_move hA (fun ac hA => ?_) rfl rfl rfl rfl rfl
              refine x_move hA (fun ac hA => ?_) rfl rfl rfl rfl rfl
              replace hS := hS.pk 3
              replace hS := hS.pk 2
              replace hS := obj53_mk (x := (⟨l22567, x22571, x22572, b22573, x22574⟩ : S53)) hS
              obtain ⟨y26942, h26943, hF⟩ := bnd hF
              refine x_call en27 hA (F_r05_Store_Delete (L := optP (obj68) p111 y26940.2 :: blk g26450 45 [.int .u8 x26439.f0, .int .u8 x26439.f1, .int .u8 x26439.f2, str x26439.f3, .slice A26442 n26443 c26444, .int .i64 x26439.f5, .slice A26446 n26447 c26448] :: L) (⟨l22567, x22571, x22572, b22573, x22574⟩ : S53) y26456.1 g120 h26943 hS) (fun v ac w hR hA => ?_) rfl rfl rfl rfl rfl
              obtain ⟨rfl, hS⟩ := hR
              obtain ⟨A26944, n26945, c26946, hS⟩ := obj53_open hS
              refine x_val hA (r_eqI rfl (hA.ev rfl) (hA.ev rfl)) (fun ac hA => ?_) rfl rfl rfl
              refine x_assign hA (fun ac hA => ?_) rfl rfl rfl rfl rfl
              refine wpList_nil ?_
              replace hS := hS.drop 3
              replace hS := hS.pk 1
              replace hS := hS.pk 2
              replace hS := hS.pk 2
              exact hb3 y26940.2 y26942.2.f0 y26942.2.f1 y26942.2.f2 y26942.2.f3 y26942.2.f4 (y26940.1 == y26942.1) hF A26944 n26945 c26946 ac w (hA.sub _ rfl) hS
            replace hF := iff' hb26939 hF
            refine wp_seq_k fun K26947 hK26947 => ?_
            refine wp_reg ?_
            refine x_val hA (r_eqI rfl (hA.ev rfl) (hA.ev rfl)) (fun ac hA => ?_) rfl rfl rfl
            refine x_assign hA (fun ac hA => ?_) rfl rfl rfl rfl rfl
            refine wpList_nil ?_
            refine hK26947 _ _ ?_
            refine c_if hA rfl (fun hb26948 => ?_) fun hb26948 => ?_
            · replace hF := ift hb26948 hF
              refine wp_seq_k fun K26949 hK26949 => ?_
              refine wp_reg ?_
              refine x_fab fa45_5 hA (fun ac hA => ?_) rfl rfl rfl rfl rfl
              refine x_ld Try.underlying3 (hS.cell 1 rfl 5 _ rfl) hA (fun ac hA => ?_) rfl rfl rfl rfl rfl rfl
              refine x_val hA (r_ltI rfl (hA.ev rfl) (hA.ev rfl)) (fun ac hA => ?_) rfl rfl rfl
              refine wpList_nil ?_
              refine hK26949 _ _ ?_
              refine c_if hA rfl (fun hb26950 => ?_) fun hb26950 => ?_
              · replace hF := ift hb26950 hF
                refine wp_reg ?_
                refine x_move hA (fun ac hA => ?_) rfl rfl rfl rfl rfl
                refine x_fab fa45_5 hA (fun ac hA => ?_) rfl rfl rfl rfl rfl
                refine x_ld Try.underlying3 (hS.cell 1 rfl 5 _ rfl) hA (fun ac hA => ?_) rfl rfl rfl rfl rfl rfl
                replace hS := hS.pk 2
                obtain ⟨y26951, h26952, hF⟩ := bnd hF
                refine x_call en22 hA (F_files_Store_Arm (L := blk g120 53 [.slice A22568 n22569 c22570, .int .i64 x22571, .int .i64 x22572, .bool b22573, .int .i64 x22574] :: blk g26450 45 [.int .u8 x26439.f0, .int .u8 x26439.f1, .int .u8 x26439.f2, str x26439.f3, .slice A26442 n26443 c26444, .int .i64 x26439.f5, .slice A26446 n26447 c26448] :: own k62 62 A22568 n22569 c22570 l22567 :: L) o22566 x26439.f5 p111 h26952 hS) (fun v ac w hR hA => ?_) rfl rfl rfl rfl rfl
                obtain ⟨rfl, hS⟩ := hR
                refine x_val hA (r_eqI rfl (hA.ev rfl) (hA.ev rfl)) (fun ac hA => ?_) rfl rfl rfl
                refine x_assign hA (fun ac hA => ?_) rfl rfl rfl rfl rfl
                refine wpList_nil ?_
                replace hS := hS.drop 2
                replace hS := hS.pk 2
                replace hS := hS.pk 1
                replace hS := hS.pk 2
                exact hb3 y26951.2 l22567 x22571 x22572 b22573 x22574 (y26951.1 == 1) hF A22568 n22569 c22570 ac w (hA.sub _ rfl) hS
              replace hF := iff' hb26950 hF
              refine wp_seq_k fun K26953 hK26953 => ?_
              refine wp_reg ?_
              refine x_move hA (fun ac hA => ?_) rfl rfl rfl rfl rfl
              refine x_fab fa45_5 hA (fun ac hA => ?_) rfl rfl rfl rfl rfl
              refine x_ld Try.underlying3 (hS.cell 1 rfl 5 _ rfl) hA (fun ac hA => ?_) rfl rfl rfl rfl rfl rfl
              refine x_val hA (r_nilCheck rfl (hA.ev rfl)) (fun ac hA => ?_) rfl rfl rfl
              refine x_fab fa53_2 hA (fun ac hA => ?_) rfl rfl rfl rfl rfl
              refine x_stb 0 sz3 hA hS rfl (fun  ac w hS hA => ?_) rfl rfl rfl rfl rfl rfl rfl rfl
              refine wpList_nil ?_
              refine hK26953 _ _ ?_
              refine wp_reg ?_
              refine x_move hA (fun ac hA => ?_) rfl rfl rfl rfl rfl
              refine x_fab fa45_5 hA (fun ac hA => ?_) rfl rfl rfl rfl rfl
              refine x_ld Try.underlying3 (hS.cell 1 rfl 5 _ rfl) hA (fun ac hA => ?_) rfl rfl rfl rfl rfl rfl
              replace hS := hS.pk 2
              obtain ⟨y26954, h26955, hF⟩ := bnd hF
              refine x_call en22 hA (F_files_Store_Arm (L := blk g120 53 [.slice A22568 n22569 c22570, .int .i64 x22571, .int .i64 x26439.f5, .bool b22573, .int .i64 x22574] :: blk g26450 45 [.int .u8 x26439.f0, .int .u8 x26439.f1, .int .u8 x26439.f2, str x26439.f3, .slice A26442 n26443 c26444, .int .i64 x26439.f5, .slice A26446 n26447 c26448] :: own k62 62 A22568 n22569 c22570 l22567 :: L) o22566 x26439.f5 p111 h26955 hS) (fun v ac w hR hA => ?_) rfl rfl rfl rfl rfl
              obtain ⟨rfl, hS⟩ := hR
              refine x_val hA (r_eqI rfl (hA.ev rfl) (hA.ev rfl)) (fun ac hA => ?_) rfl rfl rfl
              refine x_assign hA (fun ac hA => ?_) rfl rfl rfl rfl rfl
              refine wpList_nil ?_
              replace hS := hS.drop 2
              replace hS := hS.pk 2
              replace hS := hS.pk 1
              replace hS := hS.pk 2
              exact hb3 y26954.2 l22567 x22571 x26439.f5 b22573 x22574 (y26954.1 == 0) hF A22568 n22569 c22570 ac w (hA.sub _ rfl) hS
            replace hF := iff' hb26948 hF
            refine wp_seq_k fun K26956 hK26956 => ?_
            refine wp_reg ?_
            refine x_val hA (r_eqI rfl (hA.ev rfl) (hA.ev rfl)) (fun ac hA => ?_) rfl rfl rfl
            refine x_assign hA (fun ac hA => ?_) rfl rfl rfl rfl rfl
            refine wpList_nil ?_
            refine hK26956 _ _ ?_
            refine c_if hA rfl (fun hb26957 => ?_) fun hb26957 => ?_
            · replace hF := ift hb26957 hF
              refine wp_seq_k fun K26958 hK26958 => ?_
              refine wp_reg ?_
              refine x_move hA (fun ac hA => ?_) rfl rfl rfl rfl rfl
              refine x_fab fa45_6 hA (fun ac hA => ?_) rfl rfl rfl rfl rfl
              refine x_ld Try.underlying40 (hS.cell 1 rfl 6 _ rfl) hA (fun ac hA => ?_) rfl rfl rfl rfl rfl rfl
              replace hS := hS.pk 3
              replace hS := hS.pk 1
              replace hS := obj53_mk (x := (⟨l22567, x22571, x22572, b22573, x22574⟩ : S53)) hS
              obtain ⟨y26959, h26960, hF⟩ := bnd hF
              refine x_call en28 hA (F_r05_Store_Restart (L := blk g26450 45 [.int .u8 x26439.f0, .int .u8 x26439.f1, .int .u8 x26439.f2, str x26439.f3, .slice A26442 n26443 c26444, .int .i64 x26439.f5, .slice A26446 n26447 c26448] :: optP (obj68) p111 o22566 :: L) (⟨l22567, x22571, x22572, b22573, x22574⟩ : S53) x26439.f6 g120 A26446 n26447 c26448 h26960 (RdL.sfx 2 rfl (h26449.rdl qz hZ)) hS) (fun v ac w hR hA => ?_) rfl rfl rfl rfl rfl
              obtain ⟨rfl, hS⟩ := hR
              obtain ⟨A26961, n26962, c26963, hS⟩ := obj53_open hS
              refine wpList_nil ?_
              refine hK26958 _ _ ?_
              refine wp_reg ?_
              refine x_move hA (fun ac hA => ?_) rfl rfl rfl rfl rfl
              refine x_fab fa45_6 hA (fun ac hA => ?_) rfl rfl rfl rfl rfl
              refine x_ld Try.underlying40 (hS.cell 2 rfl 6 _ rfl) hA (fun ac hA => ?_) rfl rfl rfl rfl rfl rfl
              replace hS := hS.pk 3
              obtain ⟨y26964, h26965, hF⟩ := bnd hF
              refine x_call en19 hA (F_files_Store_Restart (L := blk g120 53 [.slice A26961 n26962 c26963, .int .i64 y26959.f1, .int .i64 y26959.f2, .bool y26959.f3, .int .i64 y26959.f4] :: own k62 62 A26961 n26962 c26963 y26959.f0 :: blk g26450 45 [.int .u8 x26439.f0, .int .u8 x26439.f1, .int .u8 x26439.f2, str x26439.f3, .slice A26442 n26443 c26444, .int .i64 x26439.f5, .slice A26446 n26447 c26448] :: L) o22566 x26439.f6 p111 A26446 n26447 c26448 h26965 (RdL.sfx 3 rfl (h26449.rdl qz hZ)) hS) (fun v ac w hR hA => ?_) rfl rfl rfl rfl rfl
              obtain ⟨rfl, hS⟩ := hR
              refine x_val hA (r_eqI rfl (hA.ev rfl) (hA.ev rfl)) (fun ac hA => ?_) rfl rfl rfl
              refine x_assign hA (fun ac hA => ?_) rfl rfl rfl rfl rfl
              refine wpList_nil ?_
              replace hS := hS.drop 3
              replace hS := hS.pk 2
              replace hS := hS.pk 1
              replace hS := hS.pk 2
              exact hb3 y26964.2 y26959.f0 y26959.f1 y26959.f2 y26959.f3 y26959.f4 (y26964.1 == 0) hF A26961 n26962 c26963 ac w (hA.sub _ rfl) hS
            replace hF := iff' hb26957 hF
            refine wp_seq_k fun K26966 hK26966 => ?_
            refine wp_reg ?_
            refine x_val hA (r_eqI rfl (hA.ev rfl) (hA.ev rfl)) (fun ac hA => ?_) rfl rfl rfl
            refine x_assign hA (fun ac hA => ?_) rfl rfl rfl rfl rfl
            refine wpList_nil ?_
            refine hK26966 _ _ ?_
            refine c_if hA rfl (fun hb26967 => ?_) fun hb26967 => ?_
            · replace hF := ift hb26967 hF
              refine wp_reg ?_
              refine x_move hA (fun ac hA => ?_) rfl rfl rfl rfl rfl
              refine x_move hA (fun ac hA => ?_) rfl rfl rfl rfl rfl
              refine x_move hA (fun ac hA => ?_) rfl rfl rfl rfl rfl
              refine x_fab fa45_5 hA (fun ac hA => ?_) rfl rfl rfl rfl rfl
              refine x_ld Try.underlying3 (hS.cell 1 rfl 5 _ rfl) hA (fun ac hA => ?_) rfl rfl rfl rfl rfl rfl
              replace hS := hS.pk 3
              replace hS := hS.pk 1
              replace hS := obj53_mk (x := (⟨l22567, x22571, x22572, b22573, x22574⟩ : S53)) hS
              replace hS := hS.pk 2
              obtain ⟨y26968, h26969, hF⟩ := bnd hF
              refine x_call en29 hA (F_law05_spoil (L := blk g26450 45 [.int .u8 x26439.f0, .int .u8 x26439.f1, .int .u8 x26439.f2, str x26439.f3, .slice A26442 n26443 c26444, .int .i64 x26439.f5, .slice A26446 n26447 c26448] :: L) o22566 (⟨l22567, x22571, x22572, b22573, x22574⟩ : S53) y26456.1 x26439.f5 p111 g120 h26969 hS) (fun v ac w hR hA => ?_) rfl rfl rfl rfl rfl
              obtain ⟨rfl, hS⟩ := hR
              replace hS := hS.pk 1
              obtain ⟨A26970, n26971, c26972, hS⟩ := obj53_open hS
              refine x_assign hA (fun ac hA => ?_) rfl rfl rfl rfl rfl
              refine wpList_nil ?_
              replace hS := hS.drop 3
              replace hS := hS.pk 1
              replace hS := hS.pk 2
              replace hS := hS.pk 2
              exact hb3 y26968.2.1 y26968.2.2.f0 y26968.2.2.f1 y26968.2.2.f2 y26968.2.2.f3 y26968.2.2.f4 y26968.1 hF A26970 n26971 c26972 ac w (hA.sub _ rfl) hS
            replace hF := iff' hb26967 hF
            refine wp_skip ?_
            replace hS := hS.drop 1
            exact hb3 o22566 l22567 x22571 x22572 b22573 x22574 true hF A22568 n22569 c22570 ac w (hA.sub _ rfl) hS
          refine wp_seq_k fun K26973 hK26973 => ?_
          refine wp_reg ?_
          refine x_val hA (r_eqI rfl (hA.ev rfl) (hA.ev rfl)) (fun ac hA => ?_) rfl rfl rfl
          refine x_assign hA (fun ac hA => ?_) rfl rfl rfl rfl rfl
          refine wpList_nil ?_
          refine hK26973 _ _ ?_
          refine c_if hA rfl (fun hb26974 => ?_) fun hb26974 => ?_
          · replace hF := ift hb26974 hF
            refine wp_skip ?_
            exact hj6 (x26640 == 4) hF ac w (hA.sub _ rfl) hS
          replace hF := iff' hb26974 hF
          refine wp_reg ?_
          refine x_val hA (r_eqI rfl (hA.ev rfl) (hA.ev rfl)) (fun ac hA => ?_) rfl rfl rfl
          refine x_assign hA (fun ac hA => ?_) rfl rfl rfl rfl rfl
          refine wpList_nil ?_
          exact hj6 (x26640 == 5) hF ac w (hA.sub _ rfl) hS
        refine wp_seq_k fun K26975 hK26975 => ?_
        refine wp_reg ?_
        refine x_val hA (r_eqI rfl (hA.ev rfl) (hA.ev rfl)) (fun ac hA => ?_) rfl rfl rfl
        refine x_assign hA (fun ac hA => ?_) rfl rfl rfl rfl rfl
        refine wpList_nil ?_
        refine hK26975 _ _ ?_
        refine c_if hA rfl (fun hb26976 => ?_) fun hb26976 => ?_
        · replace hF := ift hb26976 hF
          refine wp_skip ?_
          replace hS := hS.pk 3
          replace hS := hS.pk 3
          replace hS := hS.pk 2
          replace hS := hS.pk 3
          exact hj5 (x26640 == 0) hF ac w (hA.sub _ rfl) hS
        replace hF := iff' hb26976 hF
        refine wp_seq_k fun K26977 hK26977 => ?_
        refine wp_reg ?_
        refine x_val hA (r_eqI rfl (hA.ev rfl) (hA.ev rfl)) (fun ac hA => ?_) rfl rfl rfl
        refine x_assign hA (fun ac hA => ?_) rfl rfl rfl rfl rfl
        refine wpList_nil ?_
        refine hK26977 _ _ ?_
        refine c_if hA rfl (fun hb26978 => ?_) fun hb26978 => ?_
        · replace hF := ift hb26978 hF
          refine wp_skip ?_
          replace hS := hS.pk 3
          replace hS := hS.pk 3
          replace hS := hS.pk 2
          replace hS := hS.pk 3
          exact hj5 (x26640 == 1) hF ac w (hA.sub _ rfl) hS
        replace hF := iff' hb26978 hF
        refine wp_seq_k fun K26979 hK26979 => ?_
        refine wp_reg ?_
        refine x_val hA (r_eqI rfl (hA.ev rfl) (hA.ev rfl)) (fun ac hA => ?_) rfl rfl rfl
        refine x_assign hA (fun ac hA => ?_) rfl rfl rfl rfl rfl
        refine wpList_nil ?_
        refine hK26979 _ _ ?_
        refine c_if hA rfl (fun hb26980 => ?_) fun hb26980 => ?_
        · replace hF := ift hb26980 hF
          refine wp_skip ?_
          replace hS := hS.pk 3
          replace hS := hS.pk 3
          replace hS := hS.pk 2
          replace hS := hS.pk 3
          exact hj5 (x26640 == 2) hF ac w (hA.sub _ rfl) hS
        replace hF := iff' hb26980 hF
        refine wp_reg ?_
        refine x_val hA (r_eqI rfl (hA.ev rfl) (hA.ev rfl)) (fun ac hA => ?_) rfl rfl rfl
        refine x_assign hA (fun ac hA => ?_) rfl rfl rfl rfl rfl
        refine wpList_nil ?_
        replace hS := hS.pk 3
        replace hS := hS.pk 3
        replace hS := hS.pk 2
        replace hS := hS.pk 3
        exact hj5 (x26640 == 3) hF ac w (hA.sub _ rfl) hS
      replace hF := iff' hb24796 hF
      refine wp_exit ?_
      cases hF
      exact hx24790_0 o22566 l22567 x22571 x22572 b22573 x22574 (T24790_ _ rfl) A22568 n22569 c22570 ac w (hA.sub _ rfl) hS
    refine wp_reg ?_
    refine x_move hA (fun ac hA => ?_) rfl rfl rfl rfl rfl
    refine x_move hA (fun ac hA => ?_) rfl rfl rfl rfl rfl
    refine x_len Try.underlying42 (hS.rdl 3 ha1 rfl).2.1 hA (fun ac hA => ?_) rfl rfl rfl rfl rfl
    refine x_val hA (r_ltI rfl (hA.ev rfl) (hA.ev rfl)) (fun ac hA => ?_) rfl rfl rfl
    refine x_move hA (fun ac hA => ?_) rfl rfl rfl rfl rfl
    refine bcase (b := decide (x22575 < (a1.length : Int))) (fun hb26981 => ?_) fun hb26981 => ?_
    · replace hF := ift hb26981 hF
      refine x_on hb26981 hA ?_ rfl rfl rfl
      refine x_move hA (fun ac hA => ?_) rfl rfl rfl rfl rfl
      refine x_on hb26981 hA ?_ rfl rfl rfl
      refine x_val hA (r_ltI rfl (hA.ev rfl) (hA.ev rfl)) (fun ac hA => ?_) rfl rfl rfl
      refine x_pickt hb26981 hA (fun ac hA => ?_) rfl rfl rfl rfl rfl rfl
      refine wpList_nil ?_
      exact hj3 (decide (x22575 < 60)) hF ac w (hA.sub _ rfl) hS
    replace hF := iff' hb26981 hF
    refine x_off hb26981 hA (fun ac hA => ?_) rfl rfl rfl rfl rfl
    refine x_off hb26981 hA (fun ac hA => ?_) rfl rfl rfl rfl rfl
    refine x_pickf hb26981 hA (fun ac hA => ?_) rfl rfl rfl rfl rfl rfl
    refine wpList_nil ?_
    exact hj3 false hF ac w (hA.sub _ rfl) hS
  refine wp_reg ?_
  refine x_move hA (fun ac hA => ?_) rfl rfl rfl rfl rfl
  refine x_val hA (r_ltI rfl (hA.ev rfl) (hA.ev rfl)) (fun ac hA => ?_) rfl rfl rfl
  refine x_move hA (fun ac hA => ?_) rfl rfl rfl rfl rfl
  refine bcase (b := decide (a0 < 1)) (fun hb26982 => ?_) fun hb26982 => ?_
  · replace hF := ift hb26982 hF
    refine x_off hb26982 hA (fun ac hA => ?_) rfl rfl rfl rfl rfl
    refine x_off hb26982 hA (fun ac hA => ?_) rfl rfl rfl rfl rfl
    refine x_pickt hb26982 hA (fun ac hA => ?_) rfl rfl rfl rfl rfl rfl
    refine wpList_nil ?_
    exact hj1 true hF ac w (hA.sub _ rfl) hS
  replace hF := iff' hb26982 hF
  refine x_on hb26982 hA ?_ rfl rfl rfl
  refine x_move hA (fun ac hA => ?_) rfl rfl rfl rfl rfl
  refine x_on hb26982 hA ?_ rfl rfl rfl
  refine x_val hA (r_gtI rfl (hA.ev rfl) (hA.ev rfl)) (fun ac hA => ?_) rfl rfl rfl
  refine x_pickf hb26982 hA (fun ac hA => ?_) rfl rfl rfl rfl rfl rfl
  refine wpList_nil ?_
  exact hj1 (decide (16777216 < a0)) hF ac w (hA.sub _ rfl) hS
end Go.Proofs.Ytgjhiojkkjaloaa.M
