/- The calls come to the plain functions. -/
import Derived.Test.YtgjhiojkkjaloaaMf
import Derived.Test.YtgjhiojkkjaloaaDh
namespace Go.Proofs.Ytgjhiojkkjaloaa.M
open Go Go.RowKit Go.Proofs.Ytgjhiojkkjaloaa.E
set_option linter.unusedVariables false
set_option linter.unusedSimpArgs false

set_option maxHeartbeats 4000000 in
theorem F_law05_Act_names {r : World} {L : List HP} {w : World} {Z : Nat → Prop} {wz : World} (a0 : S45) (A0_4 : Option Addr) (n0_4 : Nat) (c0_4 : Nat) (A0_6 : Option Addr) (n0_6 : Nat) (c0_6 : Nat) {y : ((List UInt8) × (List UInt8))} (hF : law05_Act_names a0 = some y) (qz : Nat) (hZ : L[qz]? = some (zone Z wz)) (h0_4 : Imm Z wz (kI .u8) A0_4 n0_4 c0_4 a0.f4) (h0_6 : Imm Z wz (kI .i64) A0_6 n0_6 c0_6 a0.f6) (hS : SH r (L) w) :
    Ret Try.prog 20 #[.agg #[.int .u8 a0.f0, .int .u8 a0.f1, .int .u8 a0.f2, str a0.f3, .slice A0_4 n0_4 c0_4, .int .i64 a0.f5, .slice A0_6 n0_6 c0_6]] w fun v w' => v = .tuple #[(str y.1), (str y.2)] ∧ SH r (L) w' := by
  refine enter Try.func20 rfl Try.ntmps20 [(0, .agg #[.int .u8 a0.f0, .int .u8 a0.f1, .int .u8 a0.f2, str a0.f3, .slice A0_4 n0_4 c0_4, .int .i64 a0.f5, .slice A0_6 n0_6 c0_6])] rfl (by simp) ?_
  intro ac hA Qf hQ hQn
  unfold law05_Act_names at hF
  refine wp_seq_k fun K101 hK101 => ?_
  refine wp_reg ?_
  refine x_box hA hS (fun g102 ac w hS hA => ?_) rfl rfl rfl rfl rfl rfl
  refine x_assign hA (fun ac hA => ?_) rfl rfl rfl rfl rfl
  refine x_assign hA (fun ac hA => ?_) rfl rfl rfl rfl rfl
  refine wpList_nil ?_
  refine hK101 _ _ ?_
  refine wp_seq_k fun K103 hK103 => ?_
  refine wp_reg ?_
  refine x_fab fa45_3 hA (fun ac hA => ?_) rfl rfl rfl rfl rfl
  refine x_ld Try.underlying9 (hS.cell 0 rfl 3 _ rfl) hA (fun ac hA => ?_) rfl rfl rfl rfl rfl rfl
  refine x_bsl (d := kS) (e := 9) (ps := #[(0, str [97]), (1, str [98]), (2, str [99, 46, 49]), (3, str [115, 101, 103, 46, 48, 46, 53]), (4, str [109, 97, 110, 46, 116, 109, 112]), (5, str [122, 122]), (6, str [48]), (7, str a0.f3), (8, str [])]) (cells := [str [97], str [98], str [99, 46, 49], str [115, 101, 103, 46, 48, 46, 53], str [109, 97, 110, 46, 116, 109, 112], str [122, 122], str [48], str a0.f3, str []]) (xs := [[97], [98], [99, 46, 49], [115, 101, 103, 46, 48, 46, 53], [109, 97, 110, 46, 116, 109, 112], [122, 122], [48], a0.f3, []]) (fun w => by kernel_rfl) rfl ⟨[str [97]], _, rfl, rfl, ⟨[str [98]], _, rfl, rfl, ⟨[str [99, 46, 49]], _, rfl, rfl, ⟨[str [115, 101, 103, 46, 48, 46, 53]], _, rfl, rfl, ⟨[str [109, 97, 110, 46, 116, 109, 112]], _, rfl, rfl, ⟨[str [122, 122]], _, rfl, rfl, ⟨[str [48]], _, rfl, rfl, ⟨[str a0.f3], _, rfl, rfl, ⟨[str []], _, rfl, rfl, rfl⟩⟩⟩⟩⟩⟩⟩⟩⟩ hA hS (fun g104 ac w hS hA => ?_) rfl rfl rfl rfl rfl rfl
  refine x_assign hA (fun ac hA => ?_) rfl rfl rfl rfl rfl
  refine wpList_nil ?_
  refine hK103 _ _ ?_
  refine wp_seq_k fun K105 hK105 => ?_
  refine wp_draw [0, 0, 2, 6, 14, 31, 63, 0, 0, 256, 768, 1792, 3968, 8064, 127, 32767] [] rfl hA hS (by kernel_rfl) (by kernel_rfl) (by kernel_rfl) (by kernel_rfl) fun w hS => ?_
  obtain ⟨x106, h107, hF⟩ := ltt_ hF
  obtain ⟨x108, h109, hF⟩ := bnd hF
  obtain ⟨cs, hV, hc110⟩ := el (hS.rd 0 rfl) h109
  obtain rfl := hV
  obtain ⟨x111, h112, hF⟩ := ltt_ hF
  obtain ⟨x113, h114, hF⟩ := bnd hF
  obtain ⟨cs, hV, hc115⟩ := el (hS.rd 0 rfl) h114
  obtain rfl := hV
  refine ⟨[(0, .slice (some ⟨g104, 0, none⟩) 9 9), (1, .pointer (some ⟨g102, 1, none⟩)), (2, .int .u8 a0.f1), (3, .int .i64 x106), (4, .int .i64 (x106.tmod 9)), (5, .pointer (some (ea (some ⟨g104, 0, none⟩) ((x106.tmod 9).toNat * 1)))), (6, str x108), (7, .slice (some ⟨g104, 0, none⟩) 9 9), (8, .pointer (some ⟨g102, 2, none⟩)), (9, .int .u8 a0.f2), (10, .int .i64 x111), (11, .int .i64 (x111.tmod 9)), (12, .pointer (some (ea (some ⟨g104, 0, none⟩) ((x111.tmod 9).toNat * 1)))), (13, str x113), (14, str x108), (15, str x113)], ?_⟩
  refine dEnd [0, 1, 2, 3, 4, 5, 6, 7, 8, 9, 10, 11, 12, 13, 14, 15] (by kernel_rfl) ⟨pu rfl rfl [(4, .slice (some ⟨g104, 0, none⟩) 9 9)] (fun ac hA => y_move hA rfl rfl) rfl rfl, pu rfl rfl [(1, .pointer (some ⟨g102, 0, none⟩))] (fun ac hA => y_fab fa45_1 hA rfl rfl) rfl rfl, pu rfl rfl [(9, .pointer (some ⟨g102, 1, none⟩))] (fun ac hA => y_ld Try.underlying5 (hS.cell 1 rfl 1 _ rfl) hA rfl rfl rfl) rfl rfl, pu rfl rfl [(10, .int .u8 a0.f1)] (fun ac hA => (rv_i h107 (r_convI Try.underlying5 Try.underlying3 rfl (hA.ev rfl)) : RunV _ _ _ _ (.int .i64 x106))) rfl rfl, pu rfl rfl [(11, .int .i64 x106)] (fun ac hA => r_rem rfl (hA.ev rfl) (hA.ev rfl) (by decide)) rfl rfl, pu rfl rfl [(8, .slice (some ⟨g104, 0, none⟩) 9 9), (12, .int .i64 (x106.tmod 9))] (fun ac hA => y_ia Try.underlying31 sz9 (hS.rd 0 rfl) h109 hA rfl rfl rfl) rfl rfl, pu rfl rfl [(13, .pointer (some (ea (some ⟨g104, 0, none⟩) ((x106.tmod 9).toNat * 1))))] (fun ac hA => y_ld Try.underlying9 (hc110 0 _ rfl) hA rfl rfl rfl) rfl rfl, pu rfl rfl [(4, .slice (some ⟨g104, 0, none⟩) 9 9)] (fun ac hA => y_move hA rfl rfl) rfl rfl, pu rfl rfl [(1, .pointer (some ⟨g102, 0, none⟩))] (fun ac hA => y_fab fa45_2 hA rfl rfl) rfl rfl, pu rfl rfl [(16, .pointer (some ⟨g102, 2, none⟩))] (fun ac hA => y_ld Try.underlying5 (hS.cell 1 rfl 2 _ rfl) hA rfl rfl rfl) rfl rfl, pu rfl rfl [(17, .int .u8 a0.f2)] (fun ac hA => (rv_i h112 (r_convI Try.underlying5 Try.underlying3 rfl (hA.ev rfl)) : RunV _ _ _ _ (.int .i64 x111))) rfl rfl, pu rfl rfl [(18, .int .i64 x111)] (fun ac hA => r_rem rfl (hA.ev rfl) (hA.ev rfl) (by decide)) rfl rfl, pu rfl rfl [(15, .slice (some ⟨g104, 0, none⟩) 9 9), (19, .int .i64 (x111.tmod 9))] (fun ac hA => y_ia Try.underlying31 sz9 (hS.rd 0 rfl) h114 hA rfl rfl rfl) rfl rfl, pu rfl rfl [(20, .pointer (some (ea (some ⟨g104, 0, none⟩) ((x111.tmod 9).toNat * 1))))] (fun ac hA => y_ld Try.underlying9 (hc115 0 _ rfl) hA rfl rfl rfl) rfl rfl, pu rfl rfl [(14, str x108)] (fun ac hA => y_assign hA rfl rfl) rfl rfl, pu rfl rfl [(21, str x113)] (fun ac hA => y_assign hA rfl rfl) rfl rfl, trivial⟩ ⟨by kernel_rfl, by kernel_rfl⟩ [(2, str x108), (3, str x113)] rfl (fun ac hA => ?_)
  refine hK105 _ _ ?_
  refine wp_ret ?_
  replace hS := hS.drop 0
  replace hS := hS.drop 0
  cases hF
  refine hQ _ _ ?_
  refine lv2 Try.results20 hA rfl rfl ?_
  exact ⟨rfl, hS⟩
end Go.Proofs.Ytgjhiojkkjaloaa.M
