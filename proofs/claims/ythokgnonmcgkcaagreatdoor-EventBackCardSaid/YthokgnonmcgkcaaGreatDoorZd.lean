/- Texts of the claim, joined: what it uses of Mpr, Dql, Mql, Dre, Mre, Dce. -/
import Derived.Test.YthokgnonmcgkcaaGreatDoorZc
namespace Go.Proofs.YthokgnonmcgkcaaGreatDoor.M
open Go Go.RowKit Go.Proofs.YthokgnonmcgkcaaGreatDoor.E
set_option linter.unusedVariables false
set_option maxRecDepth 100000
set_option maxHeartbeats 4000000
set_option linter.unusedSimpArgs false
theorem F_r04_Sum {r : World} {L : List HP} {w : World} (a0 : (List Int)) (A0 : Option Addr) (n0 : Nat) (c0 : Nat) {y : (Int)} (hF : r04_Sum a0 = some y) (ha0 : RdL L (kI .u8) A0 n0 c0 a0) (hS : SH r (L) w) :
  Ret Tryz.prog 60 #[.slice A0 n0 c0] w fun v w' => v = .int .u32 y ∧ SH r (L) w' := by
 refine enter Tryz.func60 rfl Tryz.ntmps60 [(0, .slice A0 n0 c0)] rfl (by simp) ?_
 intro ac hA Qf hQ hQn
 unfold r04_Sum at hF
 refine ws fun K101 hK101 => ?_
 refine x_m hA rfl fun ac hA => ?_
 refine wn (hK101 _ _ ?_)
 refine ws fun K102 hK102 => ?_
 refine x_m hA rfl fun ac hA => ?_
 refine wn (hK102 _ _ ?_)
 refine wp_seq_k fun K103 hK103 => ?_
 refine ws fun K13626 hK13626 => ?_
 refine x_m hA rfl fun ac hA => ?_
 refine wn (hK13626 _ _ ?_)
 refine wp_block_k fun Kx13627 hKx13627 => ?_
 have hb1 : ∀ (x20428 : Int), r04_Sum_b1 x20428 = some y → ∀ (ac : Act) (w : World), FR 35 [] ac [(3, .int .u32 x20428)] → SH r (L) w → Kx13627 ac w := by
  intro x20428 hF ac w hA hS
  unfold r04_Sum_b1 at hF
  refine hKx13627 _ _ ?_
  refine hK103 _ _ ?_
  refine ws fun K20429 hK20429 => ?_
  refine x_m hA rfl fun ac hA => ?_
  obtain ⟨x20430, h20431, hF⟩ := ltt_ hF
  refine x_v (v := .int .u32 x20430) hA (rv_i h20431 (r_xor rfl (hA.ev rfl) (hA.ev rfl))) rfl fun ac hA => ?_
  refine x_m hA rfl fun ac hA => ?_
  refine wn (hK20429 _ _ ?_)
  refine wp_ret ?_
  cases hF
  refine hQ _ _ ?_
  refine lv Tryz.results60 hA rfl ?_
  exact ⟨rfl, hS⟩
 obtain ⟨t24966, hl24966, hF⟩ := bnd hF
 have hx24966_0 : ∀ (x24966 : Int), (x24966) = t24966 → ∀ (ac : Act) (w : World), FR 35 [] ac [(3, .int .u32 x24966)] → SH r (L) w → Kx13627 ac w := by
  intro x24966 ht ac w hA hS
  subst ht
  replace hF : r04_Sum_x1_0 x24966 = some y := hF
  unfold r04_Sum_x1_0 at hF
  exact hb1 x24966 hF ac w (hA.sub _ rfl) hS
 refine wp_loop_fn hl24966 (fun s ac w => FR 35 [] ac [(0, .slice A0 n0 c0), (3, .int .u32 s.1), (4, .int .i64 s.2)] ∧ SH r (L) w) ⟨hA.sub _ rfl, hS⟩ ?_
 intro N24966 s24966 o24966 hF N24966_ T24966_ ac w hLab
 obtain ⟨x22698, x22699⟩ := s24966
 replace hF : r04_Sum_l1 a0 x22698 x22699 = some o24966 := hF
 unfold r04_Sum_l1 at hF
 try dsimp only at hLab
 obtain ⟨hA, hS⟩ := hLab
 refine wp_seq_k fun K24968 hK24968 => ?_
 refine ws fun K24969 hK24969 => ?_
 refine x_m hA rfl fun ac hA => ?_
 refine x_m hA rfl fun ac hA => ?_
 refine x_len Tryz.underlying22 (hS.rdl 0 ha0 rfl).2.1 hA (fun ac hA => ?_) rfl rfl rfl rfl rfl
 refine x_v hA (r_ltI rfl (hA.ev rfl) (hA.ev rfl)) rfl fun ac hA => ?_
 refine wn (hK24969 _ _ ?_)
 refine c_if hA rfl (fun hb24970 => ?_) fun hb24970 => ?_
 ·replace hF := ift hb24970 hF
  refine wp_skip ?_
  refine hK24968 _ _ ?_
  refine wp_seq_k fun K24971 hK24971 => ?_
  refine wp_block_k fun Kx26101 hKx26101 => ?_
  refine ws fun K26666 hK26666 => ?_
  refine x_m hA rfl fun ac hA => ?_
  refine wn (hK26666 _ _ ?_)
  refine wp_block_k fun Kx26667 hKx26667 => ?_
  have hb2 : ∀ (x26948 : Int), r04_Sum_b2 x22699 x26948 = some o24966 → ∀ (ac : Act) (w : World), FR 35 [] ac [(0, .slice A0 n0 c0), (3, .int .u32 x26948), (4, .int .i64 x22699)] → SH r (L) w → Kx26667 ac w := by
   intro x26948 hF ac w hA hS
   unfold r04_Sum_b2 at hF
   refine hKx26667 _ _ ?_
   refine hKx26101 _ _ ?_
   refine hK24971 _ _ ?_
   refine wp_reg ?_
   refine x_m hA rfl fun ac hA => ?_
   obtain ⟨x26949, h26950, hF⟩ := ltt_ hF
   refine x_v (v := .int .i64 x26949) hA (rv_i h26950 (r_add rfl (hA.ev rfl) (hA.ev rfl))) rfl fun ac hA => ?_
   refine x_m hA rfl fun ac hA => ?_
   refine wpList_nil ?_
   cases hF
   exact ⟨_, N24966_ _ rfl, hA.sub _ rfl, hS⟩
  obtain ⟨t27137, hl27137, hF⟩ := bnd hF
  have hx27137_2 : ∀ (x27137 : Int), (x27137) = t27137 → ∀ (ac : Act) (w : World), FR 35 [] ac [(0, .slice A0 n0 c0), (3, .int .u32 x27137), (4, .int .i64 x22699)] → SH r (L) w → Kx26667 ac w := by
   intro x27137 ht ac w hA hS
   subst ht
   replace hF : r04_Sum_x2_2 x22699 x27137 = some o24966 := hF
   unfold r04_Sum_x2_2 at hF
   exact hb2 x27137 hF ac w (hA.sub _ rfl) hS
  refine wp_loop_fn hl27137 (fun s ac w => FR 35 [] ac [(0, .slice A0 n0 c0), (3, .int .u32 s.1), (4, .int .i64 x22699), (5, .int .i64 s.2)] ∧ SH r (L) w) ⟨hA.sub _ rfl, hS⟩ ?_
  intro N27137 s27137 o27137 hF N27137_ T27137_ ac w hLab
  obtain ⟨x27041, x27042⟩ := s27137
  replace hF : r04_Sum_l2 a0 x22699 x27041 x27042 = some o27137 := hF
  unfold r04_Sum_l2 at hF
  try dsimp only at hLab
  obtain ⟨hA, hS⟩ := hLab
  refine wp_seq_k fun K27139 hK27139 => ?_
  refine ws fun K27140 hK27140 => ?_
  refine x_m hA rfl fun ac hA => ?_
  refine x_v hA (r_ltI rfl (hA.ev rfl) (hA.ev rfl)) rfl fun ac hA => ?_
  refine wn (hK27140 _ _ ?_)
  refine c_if hA rfl (fun hb27141 => ?_) fun hb27141 => ?_
  ·replace hF := ift hb27141 hF
   refine wp_skip ?_
   refine hK27139 _ _ ?_
   refine wp_seq_k fun K27142 hK27142 => ?_
   refine wp_block_k fun Kx27186 hKx27186 => ?_
   have hb3 : ∀ (x27207 : Int), r04_Sum_b3 x27042 x27207 = some o27137 → ∀ (ac : Act) (w : World), FR 35 [] ac [(0, .slice A0 n0 c0), (3, .int .u32 x27207), (4, .int .i64 x22699), (5, .int .i64 x27042)] → SH r (L) w → Kx27186 ac w := by
    intro x27207 hF ac w hA hS
    unfold r04_Sum_b3 at hF
    refine hKx27186 _ _ ?_
    refine hK27142 _ _ ?_
    refine wp_reg ?_
    refine x_m hA rfl fun ac hA => ?_
    obtain ⟨x27208, h27209, hF⟩ := ltt_ hF
    refine x_v (v := .int .i64 x27208) hA (rv_i h27209 (r_add rfl (hA.ev rfl) (hA.ev rfl))) rfl fun ac hA => ?_
    refine x_m hA rfl fun ac hA => ?_
    refine wpList_nil ?_
    cases hF
    exact ⟨_, N27137_ _ rfl, hA.sub _ rfl, hS⟩
   refine ws fun K27210 hK27210 => ?_
   refine x_m hA rfl fun ac hA => ?_
   refine x_m hA rfl fun ac hA => ?_
   refine x_m hA rfl fun ac hA => ?_
   obtain ⟨x27211, h27212, hF⟩ := bnd hF
   refine x_ia Tryz.underlying22 sz5 (hS.rdl 0 ha0 rfl) h27212 hA (fun ac hA => ?_) rfl rfl rfl rfl rfl rfl
   obtain ⟨cs, hV, hc27213⟩ := el (hS.rdl 0 ha0 rfl) h27212
   obtain rfl := hV
   refine x_ld Tryz.underlying5 (hc27213 0 _ rfl) hA (fun ac hA => ?_) rfl rfl rfl rfl rfl rfl
   refine x_m hA rfl fun ac hA => ?_
   obtain ⟨h27214, hF⟩ := chk_some hF
   obtain ⟨x27215, h27216, hF⟩ := ltt_ hF
   refine x_v (v := .int .u8 x27215) hA (rv_i h27216 (r_shr rfl (hA.ev rfl) (hA.ev rfl) h27214)) rfl fun ac hA => ?_
   obtain ⟨x27217, h27218, hF⟩ := ltt_ hF
   refine x_v (v := .int .u32 x27217) hA (rv_i h27218 (r_convI Tryz.underlying5 Tryz.underlying79 rfl (hA.ev rfl))) rfl fun ac hA => ?_
   obtain ⟨x27219, h27220, hF⟩ := ltt_ hF
   refine x_v (v := .int .u32 x27219) hA (rv_i h27220 (r_xor rfl (hA.ev rfl) (hA.ev rfl))) rfl fun ac hA => ?_
   obtain ⟨x27221, h27222, hF⟩ := ltt_ hF
   refine x_v (v := .int .u32 x27221) hA (rv_i h27222 (r_rem rfl (hA.ev rfl) (hA.ev rfl) (by decide))) rfl fun ac hA => ?_
   refine x_m hA rfl fun ac hA => ?_
   refine wn (hK27210 _ _ ?_)
   refine ws fun K27223 hK27223 => ?_
   refine x_m hA rfl fun ac hA => ?_
   obtain ⟨x27224, h27225, hF⟩ := ltt_ hF
   refine x_v (v := .int .u32 x27224) hA (rv_i h27225 (r_quo rfl (hA.ev rfl) (hA.ev rfl) (by decide))) rfl fun ac hA => ?_
   refine x_m hA rfl fun ac hA => ?_
   refine wn (hK27223 _ _ ?_)
   refine ws fun K27226 hK27226 => ?_
   refine x_m hA rfl fun ac hA => ?_
   refine x_v hA (r_eqI rfl (hA.ev rfl) (hA.ev rfl)) rfl fun ac hA => ?_
   refine wn (hK27226 _ _ ?_)
   refine c_if hA rfl (fun hb27227 => ?_) fun hb27227 => ?_
   ·replace hF := ift hb27227 hF
    refine wp_reg ?_
    refine x_m hA rfl fun ac hA => ?_
    obtain ⟨x27228, h27229, hF⟩ := ltt_ hF
    refine x_v (v := .int .u32 x27228) hA (rv_i h27229 (r_xor rfl (hA.ev rfl) (hA.ev rfl))) rfl fun ac hA => ?_
    refine x_m hA rfl fun ac hA => ?_
    refine wpList_nil ?_
    exact hb3 x27228 hF ac w (hA.sub _ rfl) hS
   replace hF := iff' hb27227 hF
   refine wp_skip ?_
   exact hb3 x27224 hF ac w (hA.sub _ rfl) hS
  replace hF := iff' hb27141 hF
  refine wp_exit ?_
  cases hF
  exact hx27137_2 x27041 (T27137_ _ rfl) ac w (hA.sub _ rfl) hS
 replace hF := iff' hb24970 hF
 refine wp_exit ?_
 cases hF
 exact hx24966_0 x22698 (T24966_ _ rfl) ac w (hA.sub _ rfl) hS
theorem F_r04_four {r : World} {L : List HP} {w : World} (a0 : Int) {y : ((List Int))} (hF : r04_four a0 = some y) (hS : SH r (L) w) :
  Ret Tryz.prog 59 #[.int .u32 a0] w fun v w' => ∃ (B0 : Option Addr) (m0 : Nat) (d0 : Nat), v = .slice B0 m0 d0 ∧ SH r (own (kI .u8) 5 B0 m0 d0 y :: L) w' := by
 refine enter Tryz.func59 rfl Tryz.ntmps59 [(0, .int .u32 a0)] rfl (by simp) ?_
 intro ac hA Qf hQ hQn
 unfold r04_four at hF
 refine ws fun K101 hK101 => ?_
 refine x_m hA rfl fun ac hA => ?_
 refine wn (hK101 _ _ ?_)
 refine ws fun K102 hK102 => ?_
 refine x_m hA rfl fun ac hA => ?_
 obtain ⟨x103, h104, hF⟩ := ltt_ hF
 refine x_v (v := .int .u8 x103) hA (rv_i h104 (r_convI Tryz.underlying79 Tryz.underlying5 rfl (hA.ev rfl))) rfl fun ac hA => ?_
 refine x_m hA rfl fun ac hA => ?_
 obtain ⟨x105, h106, hF⟩ := ltt_ hF
 refine x_v (v := .int .u32 x105) hA (rv_i h106 (r_quo rfl (hA.ev rfl) (hA.ev rfl) (by decide))) rfl fun ac hA => ?_
 obtain ⟨x107, h108, hF⟩ := ltt_ hF
 refine x_v (v := .int .u8 x107) hA (rv_i h108 (r_convI Tryz.underlying79 Tryz.underlying5 rfl (hA.ev rfl))) rfl fun ac hA => ?_
 refine x_m hA rfl fun ac hA => ?_
 obtain ⟨x109, h110, hF⟩ := ltt_ hF
 refine x_v (v := .int .u32 x109) hA (rv_i h110 (r_quo rfl (hA.ev rfl) (hA.ev rfl) (by decide))) rfl fun ac hA => ?_
 obtain ⟨x111, h112, hF⟩ := ltt_ hF
 refine x_v (v := .int .u8 x111) hA (rv_i h112 (r_convI Tryz.underlying79 Tryz.underlying5 rfl (hA.ev rfl))) rfl fun ac hA => ?_
 refine x_m hA rfl fun ac hA => ?_
 obtain ⟨x113, h114, hF⟩ := ltt_ hF
 refine x_v (v := .int .u32 x113) hA (rv_i h114 (r_quo rfl (hA.ev rfl) (hA.ev rfl) (by decide))) rfl fun ac hA => ?_
 obtain ⟨x115, h116, hF⟩ := ltt_ hF
 refine x_v (v := .int .u8 x115) hA (rv_i h116 (r_convI Tryz.underlying79 Tryz.underlying5 rfl (hA.ev rfl))) rfl fun ac hA => ?_
 refine x_bsl (d := (kI .u8)) (e := 5) (ps := #[(0, .int .u8 x103), (1, .int .u8 x107), (2, .int .u8 x111), (3, .int .u8 x115)]) (cells := [.int .u8 x103, .int .u8 x107, .int .u8 x111, .int .u8 x115]) (xs := [x103, x107, x111, x115]) (fun w => by kernel_rfl) rfl ⟨[.int .u8 x103], _, rfl, rfl, ⟨[.int .u8 x107], _, rfl, rfl, ⟨[.int .u8 x111], _, rfl, rfl, ⟨[.int .u8 x115], _, rfl, rfl, rfl⟩⟩⟩⟩ hA hS (fun g117 ac w hS hA => ?_) rfl rfl rfl rfl rfl rfl
 refine x_m hA rfl fun ac hA => ?_
 refine wn (hK102 _ _ ?_)
 refine wp_ret ?_
 cases hF
 refine hQ _ _ ?_
 refine lv Tryz.results59 hA rfl ?_
 exact ⟨some ⟨g117, 0, none⟩, 4, 4, rfl, hS⟩
end Go.Proofs.YthokgnonmcgkcaaGreatDoor.M
namespace Go.Proofs.YthokgnonmcgkcaaGreatDoor.M
open Go Go.RowKit Go.Proofs.YthokgnonmcgkcaaGreatDoor.E
set_option linter.unusedVariables false
set_option linter.unusedSimpArgs false
noncomputable def r04_Lay (a0 : Int) (a1 : (List Int)) : Option ((List Int)) :=
  ltt (IntKind.u32.wrap (a1.length : Int)) fun x103 => ((r04_four x103).bind fun y105 => (chk (y105.length + [a0].length ≤ 140737488355328 / 1) (chk ((y105 ++ [a0]).length + a1.length ≤ 140737488355328 / 1) ((r04_Sum ((y105 ++ [a0]) ++ a1)).bind fun y122 => ((r04_four y122).bind fun y124 => (chk (((y105 ++ [a0]) ++ a1).length + y124.length ≤ 140737488355328 / 1) (some (((y105 ++ [a0]) ++ a1) ++ y124))))))))
end Go.Proofs.YthokgnonmcgkcaaGreatDoor.M
namespace Go.Proofs.YthokgnonmcgkcaaGreatDoor.M
open Go Go.RowKit Go.Proofs.YthokgnonmcgkcaaGreatDoor.E
set_option linter.unusedVariables false
set_option maxRecDepth 100000
set_option maxHeartbeats 4000000
set_option linter.unusedSimpArgs false
theorem F_r04_Lay {r : World} {L : List HP} {w : World} (a0 : Int) (a1 : (List Int)) (A1 : Option Addr) (n1 : Nat) (c1 : Nat) {y : ((List Int))} (hF : r04_Lay a0 a1 = some y) (ha1 : RdL L (kI .u8) A1 n1 c1 a1) (hS : SH r (L) w) :
  Ret Tryz.prog 30 #[.int .u8 a0, .slice A1 n1 c1] w fun v w' => ∃ (B0 : Option Addr) (m0 : Nat) (d0 : Nat), v = .slice B0 m0 d0 ∧ SH r (own (kI .u8) 5 B0 m0 d0 y :: L) w' := by
 refine enter Tryz.func30 rfl Tryz.ntmps30 [(0, .int .u8 a0), (1, .slice A1 n1 c1)] rfl (by simp) ?_
 intro ac hA Qf hQ hQn
 unfold r04_Lay at hF
 refine ws fun K101 hK101 => ?_
 refine x_m hA rfl fun ac hA => ?_
 refine wn (hK101 _ _ ?_)
 refine ws fun K102 hK102 => ?_
 refine x_m hA rfl fun ac hA => ?_
 refine x_len Tryz.underlying22 (hS.rdl 0 ha1 rfl).2.1 hA (fun ac hA => ?_) rfl rfl rfl rfl rfl
 obtain ⟨x103, h104, hF⟩ := ltt_ hF
 refine x_v (v := .int .u32 x103) hA (rv_i h104 (r_convI Tryz.underlying3 Tryz.underlying79 rfl (hA.ev rfl))) rfl fun ac hA => ?_
 obtain ⟨y105, h106, hF⟩ := bnd hF
 refine x_call en59 hA (F_r04_four (L := L) x103 h106 hS) (fun v ac w hR hA => ?_) rfl rfl rfl rfl rfl
 obtain ⟨B107, m108, d109, rfl, hS⟩ := hR
 refine x_m hA rfl fun ac hA => ?_
 refine wn (hK102 _ _ ?_)
 refine ws fun K110 hK110 => ?_
 refine x_m hA rfl fun ac hA => ?_
 refine x_m hA rfl fun ac hA => ?_
 refine x_bsl (d := (kI .u8)) (e := 5) (ps := #[(0, .int .u8 a0)]) (cells := [.int .u8 a0]) (xs := [a0]) (fun w => by kernel_rfl) rfl ⟨[.int .u8 a0], _, rfl, rfl, rfl⟩ hA hS (fun g111 ac w hS hA => ?_) rfl rfl rfl rfl rfl rfl
 obtain ⟨h112, hF⟩ := chk_some hF
 have hr := hS.rd 0 rfl
 refine x_app 1 inf5 Tryz.underlying22 hA hS hr.1 hr.2.1 h112 rfl (fun A113 n114 c115 ac w hS hA => ?_) rfl rfl rfl rfl rfl rfl rfl rfl rfl
 refine x_m hA rfl fun ac hA => ?_
 refine wn (hK110 _ _ ?_)
 refine ws fun K116 hK116 => ?_
 refine x_m hA rfl fun ac hA => ?_
 refine x_m hA rfl fun ac hA => ?_
 obtain ⟨h117, hF⟩ := chk_some hF
 have hr := hS.rdl 2 ha1 rfl
 refine x_app 0 inf5 Tryz.underlying22 hA hS hr.1 hr.2.1 h117 rfl (fun A118 n119 c120 ac w hS hA => ?_) rfl rfl rfl rfl rfl rfl rfl rfl rfl
 refine x_m hA rfl fun ac hA => ?_
 refine wn (hK116 _ _ ?_)
 refine ws fun K121 hK121 => ?_
 refine x_m hA rfl fun ac hA => ?_
 refine x_m hA rfl fun ac hA => ?_
 obtain ⟨y122, h123, hF⟩ := bnd hF
 refine x_call en60 hA (F_r04_Sum (L := own (kI .u8) 5 A118 n119 c120 ((y105 ++ [a0]) ++ a1) :: own (kI .u8) 5 (some ⟨g111, 0, none⟩) 1 1 [a0] :: L) ((y105 ++ [a0]) ++ a1) A118 n119 c120 h123 (RdL.own 0 rfl (hS.dropN 0)) hS) (fun v ac w hR hA => ?_) rfl rfl rfl rfl rfl
 obtain ⟨rfl, hS⟩ := hR
 obtain ⟨y124, h125, hF⟩ := bnd hF
 refine x_call en59 hA (F_r04_four (L := own (kI .u8) 5 A118 n119 c120 ((y105 ++ [a0]) ++ a1) :: own (kI .u8) 5 (some ⟨g111, 0, none⟩) 1 1 [a0] :: L) y122 h125 hS) (fun v ac w hR hA => ?_) rfl rfl rfl rfl rfl
 obtain ⟨B126, m127, d128, rfl, hS⟩ := hR
 obtain ⟨h129, hF⟩ := chk_some hF
 have hr := hS.rd 0 rfl
 refine x_app 1 inf5 Tryz.underlying22 hA hS hr.1 hr.2.1 h129 rfl (fun A130 n131 c132 ac w hS hA => ?_) rfl rfl rfl rfl rfl rfl rfl rfl rfl
 refine x_m hA rfl fun ac hA => ?_
 refine wn (hK121 _ _ ?_)
 refine wp_ret ?_
 replace hS := hS.drop 1
 replace hS := hS.drop 1
 cases hF
 refine hQ _ _ ?_
 refine lv Tryz.results30 hA rfl ?_
 exact ⟨A130, n131, c132, rfl, hS⟩
end Go.Proofs.YthokgnonmcgkcaaGreatDoor.M
namespace Go.Proofs.YthokgnonmcgkcaaGreatDoor.M
open Go Go.RowKit Go.Proofs.YthokgnonmcgkcaaGreatDoor.E
set_option linter.unusedVariables false
set_option linter.unusedSimpArgs false
noncomputable def r03_Uint_s (rec_ : Int → Option ((List Int))) (a0 : Int) : Option ((List Int)) :=
  if (decide (a0 < 128)) = true then (ltt (IntKind.u8.wrap a0) fun x106 => (some [x106])) else (ltt (IntKind.u64.wrap ((a0.tmod 128) + 128)) fun x110 => (ltt (IntKind.u8.wrap x110) fun x112 => (ltt (IntKind.u64.wrap (a0.tdiv 128)) fun x116 => ((rec_ x116).bind fun y118 => (chk ([x112].length + y118.length ≤ 140737488355328 / 1) (some ([x112] ++ y118)))))))
noncomputable def r03_Uint_k : Nat → Int → Option ((List Int))
  | 0 => fun _ => none
  | k + 1 => r03_Uint_s (r03_Uint_k k)
noncomputable def r03_Uint : Int → Option ((List Int)) := r03_Uint_k 12
noncomputable def r03_Int (a0 : Int) : Option ((List Int)) :=
  if (decide (a0 < 0)) = true then (ltt (IntKind.i64.wrap (a0 + 1)) fun x106 => (ltt (IntKind.u64.wrap (IntKind.i64.wrap (0 - x106))) fun x108 => (ltt (IntKind.u64.wrap (x108 * 2)) fun x110 => (ltt (IntKind.u64.wrap (x110 + 1)) fun x112 => ((r03_Uint x112).bind fun y114 => (some y114)))))) else (ltt (IntKind.u64.wrap a0) fun x120 => (ltt (IntKind.u64.wrap (x120 * 2)) fun x122 => ((r03_Uint x122).bind fun y124 => (some y124))))
noncomputable def r03_Text (a0 : (List UInt8)) : Option ((List Int)) :=
  ltt (IntKind.u64.wrap (a0.length : Int)) fun x103 => ((r03_Uint x103).bind fun y105 => (chk (a0.length ≤ maxLen) (chk (y105.length + (stb a0).length ≤ 140737488355328 / 1) (some (y105 ++ (stb a0))))))
noncomputable def r03_width_b1 (x213 : Int) : Option (Int) :=
  some x213
noncomputable def r03_width_x1_0 (x239 : Int) : Option (Int) :=
  r03_width_b1 x239
noncomputable def r03_width_l1 (x226 : Int) (x227 : Int) : Option ((Int × Int) ⊕ ((Int))) :=
  if (decide (0 < x226)) = true then (ltt (IntKind.i64.wrap (x227 + 1)) fun x246 => (ltt (IntKind.u64.wrap (x226.tdiv 2)) fun x248 => (some (.inl (x248, x246))))) else (some (.inr (x227)))
noncomputable def r03_width (a0 : Int) : Option (Int) :=
  (loop (fun s => r03_width_l1 s.1 s.2) (a0, 0)).bind fun t => r03_width_x1_0 t
noncomputable def r03_As_b1 (l147441 : (List Int)) : Option ((List Int)) :=
  some l147441
noncomputable def r03_As_b2 (l147527 : (List Int)) : Option ((List Int)) :=
  r03_As_b1 l147527
noncomputable def r03_As_x1_1 (l147584 : (List Int)) : Option ((List Int)) :=
  r03_As_b2 l147584
noncomputable def r03_As_l1 (a1 : (List Int)) (l147555 : (List Int)) (x147559 : Int) : Option (((List Int) × Int) ⊕ (((List Int)))) :=
  if (decide (x147559 < (a1.length : Int))) = true then ((at_ a1 x147559).bind fun x147594 => ((r03_Int x147594).bind fun y147597 => (chk (l147555.length + y147597.length ≤ 140737488355328 / 1) (ltt (IntKind.i64.wrap (x147559 + 1)) fun x147606 => (some (.inl (l147555 ++ y147597, x147606))))))) else (some (.inr (l147555)))
noncomputable def r03_As_b3 (l147749 : (List Int)) : Option ((List Int)) :=
  r03_As_b1 l147749
noncomputable def r03_As_x2_3 (l147846 : (List Int)) : Option ((List Int)) :=
  r03_As_b3 l147846
noncomputable def r03_As_j1 (a1 : (List Int)) (l147797 : (List Int)) (x147801 : Int) (x147865 : Int) : Option (((List Int) × Int) ⊕ (((List Int)))) :=
  (at_ a1 x147801).bind fun x147866 => (ltt (IntKind.i64.wrap (x147866 - x147865)) fun x147869 => ((r03_Int x147869).bind fun y147871 => (chk (l147797.length + y147871.length ≤ 140737488355328 / 1) (ltt (IntKind.i64.wrap (x147801 + 1)) fun x147880 => (some (.inl (l147797 ++ y147871, x147880)))))))
noncomputable def r03_As_l2 (a1 : (List Int)) (l147797 : (List Int)) (x147801 : Int) : Option (((List Int) × Int) ⊕ (((List Int)))) :=
  if (decide (x147801 < (a1.length : Int))) = true then (if (decide (0 < x147801)) = true then (ltt (IntKind.i64.wrap (x147801 - 1)) fun x147884 => ((at_ a1 x147884).bind fun x147886 => (r03_As_j1 a1 l147797 x147801 x147886))) else (r03_As_j1 a1 l147797 x147801 0)) else (some (.inr (l147797)))
noncomputable def r03_As_b4 (l148565 : (List Int)) : Option ((List Int)) :=
  r03_As_b1 l148565
noncomputable def r03_As_x3_5 (l149019 : (List Int)) : Option ((List Int)) :=
  r03_As_b4 l149019
noncomputable def r03_As_b5 (x148796 : Int) (l149183 : (List Int)) (x149187 : Int) : Option (((List Int) × Int × Int) ⊕ (((List Int)))) :=
  ltt (IntKind.i64.wrap (x148796 + 1)) fun x149188 => (some (.inl (l149183, x149187, x149188)))
noncomputable def r03_As_j2 (a1 : (List Int)) (l148791 : (List Int)) (x148795 : Int) (x148796 : Int) (b149201 : Bool) : Option (((List Int) × Int × Int) ⊕ (((List Int)))) :=
  if b149201 = true then (ltt (IntKind.u64.wrap (x148795 + 1)) fun x149204 => (r03_As_b5 x148796 l148791 x149204)) else ((at_ a1 x148796).bind fun x149207 => ((r03_Int x149207).bind fun y149210 => (chk (l148791.length + y149210.length ≤ 140737488355328 / 1) ((r03_Uint x148795).bind fun y149220 => (chk ((l148791 ++ y149210).length + y149220.length ≤ 140737488355328 / 1) (r03_As_b5 x148796 ((l148791 ++ y149210) ++ y149220) 0))))))
noncomputable def r03_As_l3 (a1 : (List Int)) (l148791 : (List Int)) (x148795 : Int) (x148796 : Int) : Option (((List Int) × Int × Int) ⊕ (((List Int)))) :=
  if (decide (x148796 < (a1.length : Int))) = true then (ltt (IntKind.i64.wrap (x148796 + 1)) fun x149229 => (if (decide (x149229 < (a1.length : Int))) = true then ((at_ a1 x149229).bind fun x149232 => ((at_ a1 x148796).bind fun x149235 => (r03_As_j2 a1 l148791 x148795 x148796 (x149232 == x149235)))) else (r03_As_j2 a1 l148791 x148795 x148796 false))) else (some (.inr (l148791)))
noncomputable def r03_As_b8 (l184721 : (List Int)) (x184725 : Int) (x184726 : Int) : Option ((List Int)) :=
  if (decide (0 < x184726)) = true then (chk (l184721.length + [x184725].length ≤ 140737488355328 / 1) (r03_As_b1 (l184721 ++ [x184725]))) else (r03_As_b1 l184721)
noncomputable def r03_As_x4_11 (l192395 : (List Int)) (x192399 : Int) (x192400 : Int) : Option ((List Int)) :=
  r03_As_b8 l192395 x192399 x192400
noncomputable def r03_As_b9 (x188551 : Int) (l195755 : (List Int)) (x195759 : Int) (x195760 : Int) : Option (((List Int) × Int × Int × Int) ⊕ (((List Int) × Int × Int))) :=
  ltt (IntKind.i64.wrap (x188551 + 1)) fun x195761 => (some (.inl (l195755, x195759, x195760, x195761)))
noncomputable def r03_As_x5_13 (x188551 : Int) (l196080 : (List Int)) (x196084 : Int) (x196085 : Int) : Option (((List Int) × Int × Int × Int) ⊕ (((List Int) × Int × Int))) :=
  r03_As_b9 x188551 l196080 x196084 x196085
noncomputable def r03_As_b10 (x195922 : Int) (l196196 : (List Int)) (x196200 : Int) (x196201 : Int) : Option (((List Int) × Int × Int × Int) ⊕ (((List Int) × Int × Int))) :=
  ltt (IntKind.i64.wrap (x195922 + 1)) fun x196202 => (some (.inl (l196196, x196200, x196201, x196202)))
noncomputable def r03_As_l5 (a1 : (List Int)) (x149603 : Int) (x150176 : Int) (x188551 : Int) (l195916 : (List Int)) (x195920 : Int) (x195921 : Int) (x195922 : Int) : Option (((List Int) × Int × Int × Int) ⊕ (((List Int) × Int × Int))) :=
  if (decide (x195922 < x150176)) = true then ((at_ a1 x188551).bind fun x196205 => (ltt (IntKind.i64.wrap (x196205 - x149603)) fun x196208 => (ltt (IntKind.u64.wrap x196208) fun x196210 => (chk (0 ≤ x195922) (ltt (ishr .u64 x196210 x195922) fun x196213 => (ltt (x196213.tmod 2) fun x196215 => (ltt (IntKind.u8.wrap x196215) fun x196217 => (chk (0 ≤ x195921) (ltt (ishl .u8 x196217 x195921) fun x196220 => (ltt (IntKind.u8.wrap (x195920 + x196220)) fun x196222 => (ltt (IntKind.i64.wrap (x195921 + 1)) fun x196225 => (if (x196225 == 8) = true then (chk (l195916.length + [x196222].length ≤ 140737488355328 / 1) (r03_As_b10 x195922 (l195916 ++ [x196222]) 0 0)) else (r03_As_b10 x195922 l195916 x196222 x196225))))))))))))) else (some (.inr (l195916, x195920, x195921)))
noncomputable def r03_As_l4 (a1 : (List Int)) (x149603 : Int) (x150176 : Int) (l188545 : (List Int)) (x188549 : Int) (x188550 : Int) (x188551 : Int) : Option (((List Int) × Int × Int × Int) ⊕ (((List Int) × Int × Int))) :=
  if (decide (x188551 < (a1.length : Int))) = true then ((loop (fun s => r03_As_l5 a1 x149603 x150176 x188551 s.1 s.2.1 s.2.2.1 s.2.2.2) (l188545, x188549, x188550, 0)).bind fun t => r03_As_x5_13 x188551 t.1 t.2.1 t.2.2) else (some (.inr (l188545, x188549, x188550)))
noncomputable def r03_As_b7 (a0 : Int) (a1 : (List Int)) (y107 : ((List Int))) (x149603 : Int) (x150176 : Int) : Option ((List Int)) :=
  (r03_Int x149603).bind fun y150178 => (chk (([a0] ++ y107).length + y150178.length ≤ 140737488355328 / 1) (ltt (IntKind.u8.wrap x150176) fun x150188 => (chk ((([a0] ++ y107) ++ y150178).length + [x150188].length ≤ 140737488355328 / 1) ((loop (fun s => r03_As_l4 a1 x149603 x150176 s.1 s.2.1 s.2.2.1 s.2.2.2) ((([a0] ++ y107) ++ y150178) ++ [x150188], 0, 0, 0)).bind fun t => r03_As_x4_11 t.1 t.2.1 t.2.2))))
noncomputable def r03_As_x6_9 (a0 : Int) (a1 : (List Int)) (y107 : ((List Int))) (x149603 : Int) (x196362 : Int) : Option ((List Int)) :=
  r03_As_b7 a0 a1 y107 x149603 x196362
noncomputable def r03_As_b11 (x196299 : Int) (x196408 : Int) : Option ((Int × Int) ⊕ ((Int))) :=
  ltt (IntKind.i64.wrap (x196299 + 1)) fun x196409 => (some (.inl (x196408, x196409)))
noncomputable def r03_As_l6 (a1 : (List Int)) (x149603 : Int) (x196298 : Int) (x196299 : Int) : Option ((Int × Int) ⊕ ((Int))) :=
  if (decide (x196299 < (a1.length : Int))) = true then ((at_ a1 x196299).bind fun x196412 => (ltt (IntKind.i64.wrap (x196412 - x149603)) fun x196415 => (ltt (IntKind.u64.wrap x196415) fun x196417 => ((r03_width x196417).bind fun y196419 => (if (decide (x196298 < y196419)) = true then (r03_As_b11 x196299 y196419) else (r03_As_b11 x196299 x196298)))))) else (some (.inr (x196298)))
noncomputable def r03_As_b6 (a0 : Int) (a1 : (List Int)) (y107 : ((List Int))) (x149603 : Int) : Option ((List Int)) :=
  (loop (fun s => r03_As_l6 a1 x149603 s.1 s.2) (0, 0)).bind fun t => r03_As_x6_9 a0 a1 y107 x149603 t
noncomputable def r03_As_x7_7 (a0 : Int) (a1 : (List Int)) (y107 : ((List Int))) (x196501 : Int) : Option ((List Int)) :=
  r03_As_b6 a0 a1 y107 x196501
noncomputable def r03_As_b12 (x196462 : Int) (x196529 : Int) : Option ((Int × Int) ⊕ ((Int))) :=
  ltt (IntKind.i64.wrap (x196462 + 1)) fun x196530 => (some (.inl (x196529, x196530)))
noncomputable def r03_As_l7 (a1 : (List Int)) (x196461 : Int) (x196462 : Int) : Option ((Int × Int) ⊕ ((Int))) :=
  if (decide (x196462 < (a1.length : Int))) = true then ((at_ a1 x196462).bind fun x196533 => (if (decide (x196533 < x196461)) = true then (r03_As_b12 x196462 x196533) else (r03_As_b12 x196462 x196461))) else (some (.inr (x196461)))
noncomputable def r03_As (a0 : Int) (a1 : (List Int)) : Option ((List Int)) :=
  ltt (IntKind.u64.wrap (a1.length : Int)) fun x105 => ((r03_Uint x105).bind fun y107 => (chk ([a0].length + y107.length ≤ 140737488355328 / 1) (if (a0 == 0) = true then ((loop (fun s => r03_As_l1 a1 s.1 s.2) ([a0] ++ y107, 0)).bind fun t => r03_As_x1_1 t) else (if (a0 == 1) = true then ((loop (fun s => r03_As_l2 a1 s.1 s.2) ([a0] ++ y107, 0)).bind fun t => r03_As_x2_3 t) else (if (a0 == 2) = true then ((loop (fun s => r03_As_l3 a1 s.1 s.2.1 s.2.2) ([a0] ++ y107, 0, 0)).bind fun t => r03_As_x3_5 t) else (if (a0 == 3) = true then (if ((a1.length : Int) == 0) = true then (some ([a0] ++ y107)) else ((at_ a1 0).bind fun x149245 => ((loop (fun s => r03_As_l7 a1 s.1 s.2) (x149245, 0)).bind fun t => r03_As_x7_7 a0 a1 y107 t))) else (r03_As_b1 ([a0] ++ y107))))))))
noncomputable def r03_Ints_b1 (l628 : (List Int)) : Option ((List Int)) :=
  some l628
noncomputable def r03_Ints_x1_0 (l748 : (List Int)) : Option ((List Int)) :=
  r03_Ints_b1 l748
noncomputable def r03_Ints_b2 (x692 : Int) (l788 : (List Int)) : Option (((List Int) × Int) ⊕ (((List Int)))) :=
  ltt (IntKind.u8.wrap (x692 + 1)) fun x792 => (some (.inl (l788, x792)))
noncomputable def r03_Ints_l1 (a0 : (List Int)) (l688 : (List Int)) (x692 : Int) : Option (((List Int) × Int) ⊕ (((List Int)))) :=
  if (decide (x692 < 4)) = true then ((r03_As x692 a0).bind fun y795 => (if (decide ((y795.length : Int) < (l688.length : Int))) = true then (r03_Ints_b2 x692 y795) else (r03_Ints_b2 x692 l688))) else (some (.inr (l688)))
noncomputable def r03_Ints (a0 : (List Int)) : Option ((List Int)) :=
  (r03_As 0 a0).bind fun y103 => ((loop (fun s => r03_Ints_l1 a0 s.1 s.2) (y103, 1)).bind fun t => r03_Ints_x1_0 t)
end Go.Proofs.YthokgnonmcgkcaaGreatDoor.M
namespace Go.Proofs.YthokgnonmcgkcaaGreatDoor.M
open Go Go.RowKit Go.Proofs.YthokgnonmcgkcaaGreatDoor.E
set_option linter.unusedVariables false
set_option maxRecDepth 100000
set_option maxHeartbeats 4000000
set_option linter.unusedSimpArgs false
theorem Fs_r03_Uint (rec_ : Int → Option ((List Int))) (hrec : ∀ {r : World} {L : List HP} {w : World} (a0 : Int) {y : ((List Int))} (hF : rec_ a0 = some y) (hS : SH r (L) w), Ret Tryz.prog 56 #[.int .u64 a0] w fun v w' => ∃ (B0 : Option Addr) (m0 : Nat) (d0 : Nat), v = .slice B0 m0 d0 ∧ SH r (own (kI .u8) 5 B0 m0 d0 y :: L) w') {r : World} {L : List HP} {w : World} (a0 : Int) {y : ((List Int))} (hF : r03_Uint_s rec_ a0 = some y) (hS : SH r (L) w) :
  Ret Tryz.prog 56 #[.int .u64 a0] w fun v w' => ∃ (B0 : Option Addr) (m0 : Nat) (d0 : Nat), v = .slice B0 m0 d0 ∧ SH r (own (kI .u8) 5 B0 m0 d0 y :: L) w' := by
 refine enter Tryz.func56 rfl Tryz.ntmps56 [(0, .int .u64 a0)] rfl (by simp) ?_
 intro ac hA Qf hQ hQn
 unfold r03_Uint_s at hF
 refine ws fun K101 hK101 => ?_
 refine x_m hA rfl fun ac hA => ?_
 refine wn (hK101 _ _ ?_)
 refine wp_seq_k fun K102 hK102 => ?_
 refine ws fun K103 hK103 => ?_
 refine x_m hA rfl fun ac hA => ?_
 refine x_v hA (r_ltI rfl (hA.ev rfl) (hA.ev rfl)) rfl fun ac hA => ?_
 refine wn (hK103 _ _ ?_)
 refine c_if hA rfl (fun hb104 => ?_) fun hb104 => ?_
 ·replace hF := ift hb104 hF
  refine ws fun K105 hK105 => ?_
  refine x_m hA rfl fun ac hA => ?_
  obtain ⟨x106, h107, hF⟩ := ltt_ hF
  refine x_v (v := .int .u8 x106) hA (rv_i h107 (r_convI Tryz.underlying34 Tryz.underlying5 rfl (hA.ev rfl))) rfl fun ac hA => ?_
  refine x_bsl (d := (kI .u8)) (e := 5) (ps := #[(0, .int .u8 x106)]) (cells := [.int .u8 x106]) (xs := [x106]) (fun w => by kernel_rfl) rfl ⟨[.int .u8 x106], _, rfl, rfl, rfl⟩ hA hS (fun g108 ac w hS hA => ?_) rfl rfl rfl rfl rfl rfl
  refine x_m hA rfl fun ac hA => ?_
  refine wn (hK105 _ _ ?_)
  refine wp_ret ?_
  cases hF
  refine hQ _ _ ?_
  refine lv Tryz.results56 hA rfl ?_
  exact ⟨some ⟨g108, 0, none⟩, 1, 1, rfl, hS⟩
 replace hF := iff' hb104 hF
 refine wp_skip ?_
 refine hK102 _ _ ?_
 refine ws fun K109 hK109 => ?_
 refine x_m hA rfl fun ac hA => ?_
 refine x_v hA (r_rem rfl (hA.ev rfl) (hA.ev rfl) (by decide)) rfl fun ac hA => ?_
 obtain ⟨x110, h111, hF⟩ := ltt_ hF
 refine x_v (v := .int .u64 x110) hA (rv_i h111 (r_add rfl (hA.ev rfl) (hA.ev rfl))) rfl fun ac hA => ?_
 obtain ⟨x112, h113, hF⟩ := ltt_ hF
 refine x_v (v := .int .u8 x112) hA (rv_i h113 (r_convI Tryz.underlying34 Tryz.underlying5 rfl (hA.ev rfl))) rfl fun ac hA => ?_
 refine x_bsl (d := (kI .u8)) (e := 5) (ps := #[(0, .int .u8 x112)]) (cells := [.int .u8 x112]) (xs := [x112]) (fun w => by kernel_rfl) rfl ⟨[.int .u8 x112], _, rfl, rfl, rfl⟩ hA hS (fun g114 ac w hS hA => ?_) rfl rfl rfl rfl rfl rfl
 refine x_m hA rfl fun ac hA => ?_
 refine wn (hK109 _ _ ?_)
 refine ws fun K115 hK115 => ?_
 refine x_m hA rfl fun ac hA => ?_
 refine x_m hA rfl fun ac hA => ?_
 obtain ⟨x116, h117, hF⟩ := ltt_ hF
 refine x_v (v := .int .u64 x116) hA (rv_i h117 (r_quo rfl (hA.ev rfl) (hA.ev rfl) (by decide))) rfl fun ac hA => ?_
 obtain ⟨y118, h119, hF⟩ := bnd hF
 refine x_call en56 hA (hrec (L := own (kI .u8) 5 (some ⟨g114, 0, none⟩) 1 1 [x112] :: L) x116 h119 hS) (fun v ac w hR hA => ?_) rfl rfl rfl rfl rfl
 obtain ⟨B120, m121, d122, rfl, hS⟩ := hR
 obtain ⟨h123, hF⟩ := chk_some hF
 have hr := hS.rd 0 rfl
 refine x_app 1 inf5 Tryz.underlying22 hA hS hr.1 hr.2.1 h123 rfl (fun A124 n125 c126 ac w hS hA => ?_) rfl rfl rfl rfl rfl rfl rfl rfl rfl
 refine x_m hA rfl fun ac hA => ?_
 refine wn (hK115 _ _ ?_)
 refine wp_ret ?_
 replace hS := hS.drop 1
 cases hF
 refine hQ _ _ ?_
 refine lv Tryz.results56 hA rfl ?_
 exact ⟨A124, n125, c126, rfl, hS⟩
theorem Fk_r03_Uint (k : Nat) : ∀ {r : World} {L : List HP} {w : World} (a0 : Int) {y : ((List Int))} (hF : r03_Uint_k k a0 = some y) (hS : SH r (L) w), Ret Tryz.prog 56 #[.int .u64 a0] w fun v w' => ∃ (B0 : Option Addr) (m0 : Nat) (d0 : Nat), v = .slice B0 m0 d0 ∧ SH r (own (kI .u8) 5 B0 m0 d0 y :: L) w' := by
 induction k with
 | zero => intros; rename_i hF _; cases hF
 | succ k ih => exact Fs_r03_Uint (r03_Uint_k k) ih
theorem F_r03_Uint {r : World} {L : List HP} {w : World} (a0 : Int) {y : ((List Int))} (hF : r03_Uint a0 = some y) (hS : SH r (L) w) :
  Ret Tryz.prog 56 #[.int .u64 a0] w fun v w' => ∃ (B0 : Option Addr) (m0 : Nat) (d0 : Nat), v = .slice B0 m0 d0 ∧ SH r (own (kI .u8) 5 B0 m0 d0 y :: L) w' := Fk_r03_Uint 12 a0 hF hS
theorem F_r03_Int {r : World} {L : List HP} {w : World} (a0 : Int) {y : ((List Int))} (hF : r03_Int a0 = some y) (hS : SH r (L) w) :
  Ret Tryz.prog 78 #[.int .i64 a0] w fun v w' => ∃ (B0 : Option Addr) (m0 : Nat) (d0 : Nat), v = .slice B0 m0 d0 ∧ SH r (own (kI .u8) 5 B0 m0 d0 y :: L) w' := by
 refine enter Tryz.func78 rfl Tryz.ntmps78 [(0, .int .i64 a0)] rfl (by simp) ?_
 intro ac hA Qf hQ hQn
 unfold r03_Int at hF
 refine ws fun K101 hK101 => ?_
 refine x_m hA rfl fun ac hA => ?_
 refine wn (hK101 _ _ ?_)
 refine wp_seq_k fun K102 hK102 => ?_
 refine ws fun K103 hK103 => ?_
 refine x_m hA rfl fun ac hA => ?_
 refine x_v hA (r_ltI rfl (hA.ev rfl) (hA.ev rfl)) rfl fun ac hA => ?_
 refine wn (hK103 _ _ ?_)
 refine c_if hA rfl (fun hb104 => ?_) fun hb104 => ?_
 ·replace hF := ift hb104 hF
  refine ws fun K105 hK105 => ?_
  refine x_m hA rfl fun ac hA => ?_
  obtain ⟨x106, h107, hF⟩ := ltt_ hF
  refine x_v (v := .int .i64 x106) hA (rv_i h107 (r_add rfl (hA.ev rfl) (hA.ev rfl))) rfl fun ac hA => ?_
  refine x_v hA (r_neg rfl (hA.ev rfl)) rfl fun ac hA => ?_
  obtain ⟨x108, h109, hF⟩ := ltt_ hF
  refine x_v (v := .int .u64 x108) hA (rv_i h109 (r_convI Tryz.underlying2 Tryz.underlying34 rfl (hA.ev rfl))) rfl fun ac hA => ?_
  obtain ⟨x110, h111, hF⟩ := ltt_ hF
  refine x_v (v := .int .u64 x110) hA (rv_i h111 (r_mul rfl (hA.ev rfl) (hA.ev rfl))) rfl fun ac hA => ?_
  obtain ⟨x112, h113, hF⟩ := ltt_ hF
  refine x_v (v := .int .u64 x112) hA (rv_i h113 (r_add rfl (hA.ev rfl) (hA.ev rfl))) rfl fun ac hA => ?_
  obtain ⟨y114, h115, hF⟩ := bnd hF
  refine x_call en56 hA (F_r03_Uint (L := L) x112 h115 hS) (fun v ac w hR hA => ?_) rfl rfl rfl rfl rfl
  obtain ⟨B116, m117, d118, rfl, hS⟩ := hR
  refine x_m hA rfl fun ac hA => ?_
  refine wn (hK105 _ _ ?_)
  refine wp_ret ?_
  cases hF
  refine hQ _ _ ?_
  refine lv Tryz.results78 hA rfl ?_
  exact ⟨B116, m117, d118, rfl, hS⟩
 replace hF := iff' hb104 hF
 refine wp_skip ?_
 refine hK102 _ _ ?_
 refine ws fun K119 hK119 => ?_
 refine x_m hA rfl fun ac hA => ?_
 obtain ⟨x120, h121, hF⟩ := ltt_ hF
 refine x_v (v := .int .u64 x120) hA (rv_i h121 (r_convI Tryz.underlying2 Tryz.underlying34 rfl (hA.ev rfl))) rfl fun ac hA => ?_
 obtain ⟨x122, h123, hF⟩ := ltt_ hF
 refine x_v (v := .int .u64 x122) hA (rv_i h123 (r_mul rfl (hA.ev rfl) (hA.ev rfl))) rfl fun ac hA => ?_
 obtain ⟨y124, h125, hF⟩ := bnd hF
 refine x_call en56 hA (F_r03_Uint (L := L) x122 h125 hS) (fun v ac w hR hA => ?_) rfl rfl rfl rfl rfl
 obtain ⟨B126, m127, d128, rfl, hS⟩ := hR
 refine x_m hA rfl fun ac hA => ?_
 refine wn (hK119 _ _ ?_)
 refine wp_ret ?_
 cases hF
 refine hQ _ _ ?_
 refine lv Tryz.results78 hA rfl ?_
 exact ⟨B126, m127, d128, rfl, hS⟩
theorem F_r03_Text {r : World} {L : List HP} {w : World} (a0 : (List UInt8)) {y : ((List Int))} (hF : r03_Text a0 = some y) (hS : SH r (L) w) :
  Ret Tryz.prog 26 #[str a0] w fun v w' => ∃ (B0 : Option Addr) (m0 : Nat) (d0 : Nat), v = .slice B0 m0 d0 ∧ SH r (own (kI .u8) 5 B0 m0 d0 y :: L) w' := by
 refine enter Tryz.func26 rfl Tryz.ntmps26 [(0, str a0)] rfl (by simp) ?_
 intro ac hA Qf hQ hQn
 unfold r03_Text at hF
 refine ws fun K101 hK101 => ?_
 refine x_m hA rfl fun ac hA => ?_
 refine wn (hK101 _ _ ?_)
 refine ws fun K102 hK102 => ?_
 refine x_m hA rfl fun ac hA => ?_
 refine x_v hA (r_lenS Tryz.underlying9 rfl (hA.ev rfl)) rfl fun ac hA => ?_
 obtain ⟨x103, h104, hF⟩ := ltt_ hF
 refine x_v (v := .int .u64 x103) hA (rv_i h104 (r_convI Tryz.underlying3 Tryz.underlying34 rfl (hA.ev rfl))) rfl fun ac hA => ?_
 obtain ⟨y105, h106, hF⟩ := bnd hF
 refine x_call en56 hA (F_r03_Uint (L := L) x103 h106 hS) (fun v ac w hR hA => ?_) rfl rfl rfl rfl rfl
 obtain ⟨B107, m108, d109, rfl, hS⟩ := hR
 refine x_m hA rfl fun ac hA => ?_
 refine wn (hK102 _ _ ?_)
 refine ws fun K110 hK110 => ?_
 refine x_m hA rfl fun ac hA => ?_
 refine x_m hA rfl fun ac hA => ?_
 obtain ⟨h114, hF⟩ := chk_some hF
 refine x_s2b (e := 5) Tryz.underlying22 Tryz.underlying5 Tryz.underlying9 hA hS h114 (fun A111 n112 c113 ac w hS hA => ?_) rfl rfl rfl rfl rfl
 obtain ⟨h115, hF⟩ := chk_some hF
 have hr := hS.rdm 0 rfl
 refine x_app 1 inf5 Tryz.underlying22 hA hS hr.1 hr.2.1 h115 rfl (fun A116 n117 c118 ac w hS hA => ?_) rfl rfl rfl rfl rfl rfl rfl rfl rfl
 refine x_m hA rfl fun ac hA => ?_
 refine wn (hK110 _ _ ?_)
 refine wp_ret ?_
 replace hS := hS.drop 1
 cases hF
 refine hQ _ _ ?_
 refine lv Tryz.results26 hA rfl ?_
 exact ⟨A116, n117, c118, rfl, hS⟩
theorem F_r03_width {r : World} {L : List HP} {w : World} (a0 : Int) {y : (Int)} (hF : r03_width a0 = some y) (hS : SH r (L) w) :
  Ret Tryz.prog 79 #[.int .u64 a0] w fun v w' => v = .int .i64 y ∧ SH r (L) w' := by
 refine enter Tryz.func79 rfl Tryz.ntmps79 [(0, .int .u64 a0)] rfl (by simp) ?_
 intro ac hA Qf hQ hQn
 unfold r03_width at hF
 refine ws fun K101 hK101 => ?_
 refine x_m hA rfl fun ac hA => ?_
 refine wn (hK101 _ _ ?_)
 refine ws fun K102 hK102 => ?_
 refine x_m hA rfl fun ac hA => ?_
 refine wn (hK102 _ _ ?_)
 refine wp_seq_k fun K103 hK103 => ?_
 refine wp_block_k fun Kx177 hKx177 => ?_
 have hb1 : ∀ (x213 : Int), r03_width_b1 x213 = some y → ∀ (ac : Act) (w : World), FR 11 [] ac [(3, .int .i64 x213)] → SH r (L) w → Kx177 ac w := by
  intro x213 hF ac w hA hS
  unfold r03_width_b1 at hF
  refine hKx177 _ _ ?_
  refine hK103 _ _ ?_
  refine ws fun K214 hK214 => ?_
  refine x_m hA rfl fun ac hA => ?_
  refine x_m hA rfl fun ac hA => ?_
  refine wn (hK214 _ _ ?_)
  refine wp_ret ?_
  cases hF
  refine hQ _ _ ?_
  refine lv Tryz.results79 hA rfl ?_
  exact ⟨rfl, hS⟩
 obtain ⟨t239, hl239, hF⟩ := bnd hF
 have hx239_0 : ∀ (x239 : Int), (x239) = t239 → ∀ (ac : Act) (w : World), FR 11 [] ac [(3, .int .i64 x239)] → SH r (L) w → Kx177 ac w := by
  intro x239 ht ac w hA hS
  subst ht
  replace hF : r03_width_x1_0 x239 = some y := hF
  unfold r03_width_x1_0 at hF
  exact hb1 x239 hF ac w (hA.sub _ rfl) hS
 refine wp_loop_fn hl239 (fun s ac w => FR 11 [] ac [(0, .int .u64 s.1), (3, .int .i64 s.2)] ∧ SH r (L) w) ⟨hA.sub _ rfl, hS⟩ ?_
 intro N239 s239 o239 hF N239_ T239_ ac w hLab
 obtain ⟨x226, x227⟩ := s239
 replace hF : r03_width_l1 x226 x227 = some o239 := hF
 unfold r03_width_l1 at hF
 try dsimp only at hLab
 obtain ⟨hA, hS⟩ := hLab
 refine wp_seq_k fun K241 hK241 => ?_
 refine ws fun K242 hK242 => ?_
 refine x_m hA rfl fun ac hA => ?_
 refine x_v hA (r_gtI rfl (hA.ev rfl) (hA.ev rfl)) rfl fun ac hA => ?_
 refine wn (hK242 _ _ ?_)
 refine c_if hA rfl (fun hb243 => ?_) fun hb243 => ?_
 ·replace hF := ift hb243 hF
  refine wp_skip ?_
  refine hK241 _ _ ?_
  refine wp_block_k fun Kx244 hKx244 => ?_
  refine ws fun K245 hK245 => ?_
  refine x_m hA rfl fun ac hA => ?_
  obtain ⟨x246, h247, hF⟩ := ltt_ hF
  refine x_v (v := .int .i64 x246) hA (rv_i h247 (r_add rfl (hA.ev rfl) (hA.ev rfl))) rfl fun ac hA => ?_
  refine x_m hA rfl fun ac hA => ?_
  refine wn (hK245 _ _ ?_)
  refine wp_reg ?_
  refine x_m hA rfl fun ac hA => ?_
  obtain ⟨x248, h249, hF⟩ := ltt_ hF
  refine x_v (v := .int .u64 x248) hA (rv_i h249 (r_quo rfl (hA.ev rfl) (hA.ev rfl) (by decide))) rfl fun ac hA => ?_
  refine x_m hA rfl fun ac hA => ?_
  refine wpList_nil ?_
  refine hKx244 _ _ ?_
  cases hF
  exact ⟨_, N239_ _ rfl, hA.sub _ rfl, hS⟩
 replace hF := iff' hb243 hF
 refine wp_exit ?_
 cases hF
 exact hx239_0 x227 (T239_ _ rfl) ac w (hA.sub _ rfl) hS
theorem F_r03_As {r : World} {L : List HP} {w : World} (a0 : Int) (a1 : (List Int)) (A1 : Option Addr) (n1 : Nat) (c1 : Nat) {y : ((List Int))} (hF : r03_As a0 a1 = some y) (ha1 : RdL L (kI .i64) A1 n1 c1 a1) (hS : SH r (L) w) :
  Ret Tryz.prog 57 #[.int .u8 a0, .slice A1 n1 c1] w fun v w' => ∃ (B0 : Option Addr) (m0 : Nat) (d0 : Nat), v = .slice B0 m0 d0 ∧ SH r (own (kI .u8) 5 B0 m0 d0 y :: L) w' := by
 refine enter Tryz.func57 rfl Tryz.ntmps57 [(0, .int .u8 a0), (1, .slice A1 n1 c1)] rfl (by simp) ?_
 intro ac hA Qf hQ hQn
 unfold r03_As at hF
 refine ws fun K101 hK101 => ?_
 refine x_m hA rfl fun ac hA => ?_
 refine wn (hK101 _ _ ?_)
 refine ws fun K102 hK102 => ?_
 refine x_m hA rfl fun ac hA => ?_
 refine x_bsl (d := (kI .u8)) (e := 5) (ps := #[(0, .int .u8 a0)]) (cells := [.int .u8 a0]) (xs := [a0]) (fun w => by kernel_rfl) rfl ⟨[.int .u8 a0], _, rfl, rfl, rfl⟩ hA hS (fun g103 ac w hS hA => ?_) rfl rfl rfl rfl rfl rfl
 refine x_m hA rfl fun ac hA => ?_
 refine wn (hK102 _ _ ?_)
 refine ws fun K104 hK104 => ?_
 refine x_m hA rfl fun ac hA => ?_
 refine x_m hA rfl fun ac hA => ?_
 refine x_len Tryz.underlying39 (hS.rdl 1 ha1 rfl).2.1 hA (fun ac hA => ?_) rfl rfl rfl rfl rfl
 obtain ⟨x105, h106, hF⟩ := ltt_ hF
 refine x_v (v := .int .u64 x105) hA (rv_i h106 (r_convI Tryz.underlying3 Tryz.underlying34 rfl (hA.ev rfl))) rfl fun ac hA => ?_
 obtain ⟨y107, h108, hF⟩ := bnd hF
 refine x_call en56 hA (F_r03_Uint (L := own (kI .u8) 5 (some ⟨g103, 0, none⟩) 1 1 [a0] :: L) x105 h108 hS) (fun v ac w hR hA => ?_) rfl rfl rfl rfl rfl
 obtain ⟨B109, m110, d111, rfl, hS⟩ := hR
 obtain ⟨h112, hF⟩ := chk_some hF
 have hr := hS.rd 0 rfl
 refine x_app 1 inf5 Tryz.underlying22 hA hS hr.1 hr.2.1 h112 rfl (fun A113 n114 c115 ac w hS hA => ?_) rfl rfl rfl rfl rfl rfl rfl rfl rfl
 refine x_m hA rfl fun ac hA => ?_
 refine wn (hK104 _ _ ?_)
 refine wp_seq_k fun K116 hK116 => ?_
 refine ws fun K98334 hK98334 => ?_
 refine x_m hA rfl fun ac hA => ?_
 refine wn (hK98334 _ _ ?_)
 refine wp_block_k fun Kx98335 hKx98335 => ?_
 have hb1 : ∀ (l147441 : (List Int)), r03_As_b1 l147441 = some y → ∀ (A147442 : Option Addr) (n147443 : Nat) (c147444 : Nat) (ac : Act) (w : World), FR 199 [] ac [(5, .slice A147442 n147443 c147444)] → SH r (own (kI .u8) 5 A147442 n147443 c147444 l147441 :: L) w → Kx98335 ac w := by
  intro l147441 hF A147442 n147443 c147444 ac w hA hS
  unfold r03_As_b1 at hF
  refine hKx98335 _ _ ?_
  refine hK116 _ _ ?_
  refine ws fun K147445 hK147445 => ?_
  refine x_m hA rfl fun ac hA => ?_
  refine x_m hA rfl fun ac hA => ?_
  refine wn (hK147445 _ _ ?_)
  refine wp_ret ?_
  cases hF
  refine hQ _ _ ?_
  refine lv Tryz.results57 hA rfl ?_
  exact ⟨A147442, n147443, c147444, rfl, hS⟩
 refine ws fun K147446 hK147446 => ?_
 refine x_v hA (r_eqI rfl (hA.ev rfl) (hA.ev rfl)) rfl fun ac hA => ?_
 refine x_m hA rfl fun ac hA => ?_
 refine wn (hK147446 _ _ ?_)
 refine c_if hA rfl (fun hb147447 => ?_) fun hb147447 => ?_
 ·replace hF := ift hb147447 hF
  refine ws fun K147448 hK147448 => ?_
  refine x_m hA rfl fun ac hA => ?_
  refine wn (hK147448 _ _ ?_)
  refine wp_block_k fun Kx147449 hKx147449 => ?_
  have hb2 : ∀ (l147527 : (List Int)), r03_As_b2 l147527 = some y → ∀ (A147528 : Option Addr) (n147529 : Nat) (c147530 : Nat) (ac : Act) (w : World), FR 199 [] ac [(5, .slice A147528 n147529 c147530)] → SH r (own (kI .u8) 5 A147528 n147529 c147530 l147527 :: L) w → Kx147449 ac w := by
   intro l147527 hF A147528 n147529 c147530 ac w hA hS
   unfold r03_As_b2 at hF
   refine hKx147449 _ _ ?_
   exact hb1 l147527 hF A147528 n147529 c147530 ac w (hA.sub _ rfl) hS
  obtain ⟨t147587, hl147587, hF⟩ := bnd hF
  have hx147587_1 : ∀ (l147584 : (List Int)), (l147584) = t147587 → ∀ (A147585 : Option Addr) (n147586 : Nat) (c147587 : Nat) (ac : Act) (w : World), FR 199 [] ac [(5, .slice A147585 n147586 c147587)] → SH r (own (kI .u8) 5 A147585 n147586 c147587 l147584 :: L) w → Kx147449 ac w := by
   intro l147584 ht A147585 n147586 c147587 ac w hA hS
   subst ht
   replace hF : r03_As_x1_1 l147584 = some y := hF
   unfold r03_As_x1_1 at hF
   exact hb2 l147584 hF A147585 n147586 c147587 ac w (hA.sub _ rfl) hS
  replace hS := hS.drop 1
  refine wp_loop_fn hl147587 (fun s ac w => ∃ (A147556 : Option Addr) (n147557 : Nat) (c147558 : Nat), FR 199 [] ac [(1, .slice A1 n1 c1), (5, .slice A147556 n147557 c147558), (6, .int .i64 s.2)] ∧ SH r (own (kI .u8) 5 A147556 n147557 c147558 s.1 :: L) w) ⟨A113, n114, c115, hA.sub _ rfl, hS⟩ ?_
  intro N147587 s147587 o147587 hF N147587_ T147587_ ac w hLab
  obtain ⟨l147555, x147559⟩ := s147587
  replace hF : r03_As_l1 a1 l147555 x147559 = some o147587 := hF
  unfold r03_As_l1 at hF
  try dsimp only at hLab
  obtain ⟨A147556, n147557, c147558, hA, hS⟩ := hLab
  refine wp_seq_k fun K147589 hK147589 => ?_
  refine ws fun K147590 hK147590 => ?_
  refine x_m hA rfl fun ac hA => ?_
  refine x_m hA rfl fun ac hA => ?_
  refine x_len Tryz.underlying39 (hS.rdl 1 ha1 rfl).2.1 hA (fun ac hA => ?_) rfl rfl rfl rfl rfl
  refine x_v hA (r_ltI rfl (hA.ev rfl) (hA.ev rfl)) rfl fun ac hA => ?_
  refine wn (hK147590 _ _ ?_)
  refine c_if hA rfl (fun hb147591 => ?_) fun hb147591 => ?_
  ·replace hF := ift hb147591 hF
   refine wp_skip ?_
   refine hK147589 _ _ ?_
   refine wp_seq_k fun K147592 hK147592 => ?_
   refine wp_block_k fun Kx147593 hKx147593 => ?_
   refine wp_reg ?_
   refine x_m hA rfl fun ac hA => ?_
   refine x_m hA rfl fun ac hA => ?_
   refine x_m hA rfl fun ac hA => ?_
   obtain ⟨x147594, h147595, hF⟩ := bnd hF
   refine x_ia Tryz.underlying39 sz2 (hS.rdl 1 ha1 rfl) h147595 hA (fun ac hA => ?_) rfl rfl rfl rfl rfl rfl
   obtain ⟨cs, hV, hc147596⟩ := el (hS.rdl 1 ha1 rfl) h147595
   obtain rfl := hV
   refine x_ld Tryz.underlying2 (hc147596 0 _ rfl) hA (fun ac hA => ?_) rfl rfl rfl rfl rfl rfl
   obtain ⟨y147597, h147598, hF⟩ := bnd hF
   refine x_call en78 hA (F_r03_Int (L := own (kI .u8) 5 A147556 n147557 c147558 l147555 :: L) x147594 h147598 hS) (fun v ac w hR hA => ?_) rfl rfl rfl rfl rfl
   obtain ⟨B147599, m147600, d147601, rfl, hS⟩ := hR
   obtain ⟨h147602, hF⟩ := chk_some hF
   have hr := hS.rd 0 rfl
   refine x_app 1 inf5 Tryz.underlying22 hA hS hr.1 hr.2.1 h147602 rfl (fun A147603 n147604 c147605 ac w hS hA => ?_) rfl rfl rfl rfl rfl rfl rfl rfl rfl
   refine x_m hA rfl fun ac hA => ?_
   refine wpList_nil ?_
   refine hKx147593 _ _ ?_
   refine hK147592 _ _ ?_
   refine wp_reg ?_
   refine x_m hA rfl fun ac hA => ?_
   obtain ⟨x147606, h147607, hF⟩ := ltt_ hF
   refine x_v (v := .int .i64 x147606) hA (rv_i h147607 (r_add rfl (hA.ev rfl) (hA.ev rfl))) rfl fun ac hA => ?_
   refine x_m hA rfl fun ac hA => ?_
   refine wpList_nil ?_
   replace hS := hS.drop 1
   cases hF
   exact ⟨_, N147587_ _ rfl, A147603, n147604, c147605, hA.sub _ rfl, hS⟩
  replace hF := iff' hb147591 hF
  refine wp_exit ?_
  cases hF
  exact hx147587_1 l147555 (T147587_ _ rfl) A147556 n147557 c147558 ac w (hA.sub _ rfl) hS
 replace hF := iff' hb147447 hF
 refine ws fun K147608 hK147608 => ?_
 refine x_v hA (r_eqI rfl (hA.ev rfl) (hA.ev rfl)) rfl fun ac hA => ?_
 refine x_m hA rfl fun ac hA => ?_
 refine wn (hK147608 _ _ ?_)
 refine c_if hA rfl (fun hb147609 => ?_) fun hb147609 => ?_
 ·replace hF := ift hb147609 hF
  refine ws fun K147610 hK147610 => ?_
  refine x_m hA rfl fun ac hA => ?_
  refine wn (hK147610 _ _ ?_)
  refine wp_block_k fun Kx147611 hKx147611 => ?_
  have hb3 : ∀ (l147749 : (List Int)), r03_As_b3 l147749 = some y → ∀ (A147750 : Option Addr) (n147751 : Nat) (c147752 : Nat) (ac : Act) (w : World), FR 199 [] ac [(5, .slice A147750 n147751 c147752)] → SH r (own (kI .u8) 5 A147750 n147751 c147752 l147749 :: L) w → Kx147611 ac w := by
   intro l147749 hF A147750 n147751 c147752 ac w hA hS
   unfold r03_As_b3 at hF
   refine hKx147611 _ _ ?_
   exact hb1 l147749 hF A147750 n147751 c147752 ac w (hA.sub _ rfl) hS
  obtain ⟨t147849, hl147849, hF⟩ := bnd hF
  have hx147849_3 : ∀ (l147846 : (List Int)), (l147846) = t147849 → ∀ (A147847 : Option Addr) (n147848 : Nat) (c147849 : Nat) (ac : Act) (w : World), FR 199 [] ac [(5, .slice A147847 n147848 c147849)] → SH r (own (kI .u8) 5 A147847 n147848 c147849 l147846 :: L) w → Kx147611 ac w := by
   intro l147846 ht A147847 n147848 c147849 ac w hA hS
   subst ht
   replace hF : r03_As_x2_3 l147846 = some y := hF
   unfold r03_As_x2_3 at hF
   exact hb3 l147846 hF A147847 n147848 c147849 ac w (hA.sub _ rfl) hS
  replace hS := hS.drop 1
  refine wp_loop_fn hl147849 (fun s ac w => ∃ (A147798 : Option Addr) (n147799 : Nat) (c147800 : Nat), FR 199 [] ac [(1, .slice A1 n1 c1), (5, .slice A147798 n147799 c147800), (7, .int .i64 s.2)] ∧ SH r (own (kI .u8) 5 A147798 n147799 c147800 s.1 :: L) w) ⟨A113, n114, c115, hA.sub _ rfl, hS⟩ ?_
  intro N147849 s147849 o147849 hF N147849_ T147849_ ac w hLab
  obtain ⟨l147797, x147801⟩ := s147849
  replace hF : r03_As_l2 a1 l147797 x147801 = some o147849 := hF
  unfold r03_As_l2 at hF
  try dsimp only at hLab
  obtain ⟨A147798, n147799, c147800, hA, hS⟩ := hLab
  refine wp_seq_k fun K147851 hK147851 => ?_
  refine ws fun K147852 hK147852 => ?_
  refine x_m hA rfl fun ac hA => ?_
  refine x_m hA rfl fun ac hA => ?_
  refine x_len Tryz.underlying39 (hS.rdl 1 ha1 rfl).2.1 hA (fun ac hA => ?_) rfl rfl rfl rfl rfl
  refine x_v hA (r_ltI rfl (hA.ev rfl) (hA.ev rfl)) rfl fun ac hA => ?_
  refine wn (hK147852 _ _ ?_)
  refine c_if hA rfl (fun hb147853 => ?_) fun hb147853 => ?_
  ·replace hF := ift hb147853 hF
   refine wp_skip ?_
   refine hK147851 _ _ ?_
   refine wp_seq_k fun K147854 hK147854 => ?_
   refine wp_block_k fun Kx147855 hKx147855 => ?_
   refine ws fun K147856 hK147856 => ?_
   refine x_m hA rfl fun ac hA => ?_
   refine wn (hK147856 _ _ ?_)
   refine wp_seq_k fun K147857 hK147857 => ?_
   have hj1 : ∀ (x147865 : Int), r03_As_j1 a1 l147797 x147801 x147865 = some o147849 → ∀ (ac : Act) (w : World), FR 199 [] ac [(1, .slice A1 n1 c1), (5, .slice A147798 n147799 c147800), (7, .int .i64 x147801), (8, .int .i64 x147865)] → SH r (own (kI .u8) 5 A147798 n147799 c147800 l147797 :: L) w → K147857 ac w := by
    intro x147865 hF ac w hA hS
    unfold r03_As_j1 at hF
    refine hK147857 _ _ ?_
    refine wp_reg ?_
    refine x_m hA rfl fun ac hA => ?_
    refine x_m hA rfl fun ac hA => ?_
    refine x_m hA rfl fun ac hA => ?_
    obtain ⟨x147866, h147867, hF⟩ := bnd hF
    refine x_ia Tryz.underlying39 sz2 (hS.rdl 1 ha1 rfl) h147867 hA (fun ac hA => ?_) rfl rfl rfl rfl rfl rfl
    obtain ⟨cs, hV, hc147868⟩ := el (hS.rdl 1 ha1 rfl) h147867
    obtain rfl := hV
    refine x_ld Tryz.underlying2 (hc147868 0 _ rfl) hA (fun ac hA => ?_) rfl rfl rfl rfl rfl rfl
    refine x_m hA rfl fun ac hA => ?_
    obtain ⟨x147869, h147870, hF⟩ := ltt_ hF
    refine x_v (v := .int .i64 x147869) hA (rv_i h147870 (r_sub rfl (hA.ev rfl) (hA.ev rfl))) rfl fun ac hA => ?_
    obtain ⟨y147871, h147872, hF⟩ := bnd hF
    refine x_call en78 hA (F_r03_Int (L := own (kI .u8) 5 A147798 n147799 c147800 l147797 :: L) x147869 h147872 hS) (fun v ac w hR hA => ?_) rfl rfl rfl rfl rfl
    obtain ⟨B147873, m147874, d147875, rfl, hS⟩ := hR
    obtain ⟨h147876, hF⟩ := chk_some hF
    have hr := hS.rd 0 rfl
    refine x_app 1 inf5 Tryz.underlying22 hA hS hr.1 hr.2.1 h147876 rfl (fun A147877 n147878 c147879 ac w hS hA => ?_) rfl rfl rfl rfl rfl rfl rfl rfl rfl
    refine x_m hA rfl fun ac hA => ?_
    refine wpList_nil ?_
    refine hKx147855 _ _ ?_
    refine hK147854 _ _ ?_
    refine wp_reg ?_
    refine x_m hA rfl fun ac hA => ?_
    obtain ⟨x147880, h147881, hF⟩ := ltt_ hF
    refine x_v (v := .int .i64 x147880) hA (rv_i h147881 (r_add rfl (hA.ev rfl) (hA.ev rfl))) rfl fun ac hA => ?_
    refine x_m hA rfl fun ac hA => ?_
    refine wpList_nil ?_
    replace hS := hS.drop 1
    cases hF
    exact ⟨_, N147849_ _ rfl, A147877, n147878, c147879, hA.sub _ rfl, hS⟩
   refine ws fun K147882 hK147882 => ?_
   refine x_m hA rfl fun ac hA => ?_
   refine x_v hA (r_gtI rfl (hA.ev rfl) (hA.ev rfl)) rfl fun ac hA => ?_
   refine wn (hK147882 _ _ ?_)
   refine c_if hA rfl (fun hb147883 => ?_) fun hb147883 => ?_
   ·replace hF := ift hb147883 hF
    refine wp_reg ?_
    refine x_m hA rfl fun ac hA => ?_
    refine x_m hA rfl fun ac hA => ?_
    obtain ⟨x147884, h147885, hF⟩ := ltt_ hF
    refine x_v (v := .int .i64 x147884) hA (rv_i h147885 (r_sub rfl (hA.ev rfl) (hA.ev rfl))) rfl fun ac hA => ?_
    obtain ⟨x147886, h147887, hF⟩ := bnd hF
    refine x_ia Tryz.underlying39 sz2 (hS.rdl 1 ha1 rfl) h147887 hA (fun ac hA => ?_) rfl rfl rfl rfl rfl rfl
    obtain ⟨cs, hV, hc147888⟩ := el (hS.rdl 1 ha1 rfl) h147887
    obtain rfl := hV
    refine x_ld Tryz.underlying2 (hc147888 0 _ rfl) hA (fun ac hA => ?_) rfl rfl rfl rfl rfl rfl
    refine x_m hA rfl fun ac hA => ?_
    refine wpList_nil ?_
    exact hj1 x147886 hF ac w (hA.sub _ rfl) hS
   replace hF := iff' hb147883 hF
   refine wp_skip ?_
   exact hj1 0 hF ac w (hA.sub _ rfl) hS
  replace hF := iff' hb147853 hF
  refine wp_exit ?_
  cases hF
  exact hx147849_3 l147797 (T147849_ _ rfl) A147798 n147799 c147800 ac w (hA.sub _ rfl) hS
 replace hF := iff' hb147609 hF
 refine ws fun K147889 hK147889 => ?_
 refine x_v hA (r_eqI rfl (hA.ev rfl) (hA.ev rfl)) rfl fun ac hA => ?_
 refine x_m hA rfl fun ac hA => ?_
 refine wn (hK147889 _ _ ?_)
 refine c_if hA rfl (fun hb147890 => ?_) fun hb147890 => ?_
 ·replace hF := ift hb147890 hF
  refine ws fun K147891 hK147891 => ?_
  refine x_m hA rfl fun ac hA => ?_
  refine wn (hK147891 _ _ ?_)
  refine ws fun K147892 hK147892 => ?_
  refine x_m hA rfl fun ac hA => ?_
  refine wn (hK147892 _ _ ?_)
  refine wp_block_k fun Kx147893 hKx147893 => ?_
  have hb4 : ∀ (l148565 : (List Int)), r03_As_b4 l148565 = some y → ∀ (A148566 : Option Addr) (n148567 : Nat) (c148568 : Nat) (ac : Act) (w : World), FR 199 [] ac [(5, .slice A148566 n148567 c148568)] → SH r (own (kI .u8) 5 A148566 n148567 c148568 l148565 :: L) w → Kx147893 ac w := by
   intro l148565 hF A148566 n148567 c148568 ac w hA hS
   unfold r03_As_b4 at hF
   refine hKx147893 _ _ ?_
   exact hb1 l148565 hF A148566 n148567 c148568 ac w (hA.sub _ rfl) hS
  obtain ⟨t149022, hl149022, hF⟩ := bnd hF
  have hx149022_5 : ∀ (l149019 : (List Int)), (l149019) = t149022 → ∀ (A149020 : Option Addr) (n149021 : Nat) (c149022 : Nat) (ac : Act) (w : World), FR 199 [] ac [(5, .slice A149020 n149021 c149022)] → SH r (own (kI .u8) 5 A149020 n149021 c149022 l149019 :: L) w → Kx147893 ac w := by
   intro l149019 ht A149020 n149021 c149022 ac w hA hS
   subst ht
   replace hF : r03_As_x3_5 l149019 = some y := hF
   unfold r03_As_x3_5 at hF
   exact hb4 l149019 hF A149020 n149021 c149022 ac w (hA.sub _ rfl) hS
  replace hS := hS.drop 1
  refine wp_loop_fn hl149022 (fun s ac w => ∃ (A148792 : Option Addr) (n148793 : Nat) (c148794 : Nat), FR 199 [] ac [(1, .slice A1 n1 c1), (5, .slice A148792 n148793 c148794), (9, .int .u64 s.2.1), (10, .int .i64 s.2.2)] ∧ SH r (own (kI .u8) 5 A148792 n148793 c148794 s.1 :: L) w) ⟨A113, n114, c115, hA.sub _ rfl, hS⟩ ?_
  intro N149022 s149022 o149022 hF N149022_ T149022_ ac w hLab
  obtain ⟨l148791, x148795, x148796⟩ := s149022
  replace hF : r03_As_l3 a1 l148791 x148795 x148796 = some o149022 := hF
  unfold r03_As_l3 at hF
  try dsimp only at hLab
  obtain ⟨A148792, n148793, c148794, hA, hS⟩ := hLab
  refine wp_seq_k fun K149024 hK149024 => ?_
  refine ws fun K149025 hK149025 => ?_
  refine x_m hA rfl fun ac hA => ?_
  refine x_m hA rfl fun ac hA => ?_
  refine x_len Tryz.underlying39 (hS.rdl 1 ha1 rfl).2.1 hA (fun ac hA => ?_) rfl rfl rfl rfl rfl
  refine x_v hA (r_ltI rfl (hA.ev rfl) (hA.ev rfl)) rfl fun ac hA => ?_
  refine wn (hK149025 _ _ ?_)
  refine c_if hA rfl (fun hb149026 => ?_) fun hb149026 => ?_
  ·replace hF := ift hb149026 hF
   refine wp_skip ?_
   refine hK149024 _ _ ?_
   refine wp_seq_k fun K149027 hK149027 => ?_
   refine wp_block_k fun Kx149133 hKx149133 => ?_
   have hb5 : ∀ (l149183 : (List Int)) (x149187 : Int), r03_As_b5 x148796 l149183 x149187 = some o149022 → ∀ (A149184 : Option Addr) (n149185 : Nat) (c149186 : Nat) (ac : Act) (w : World), FR 199 [] ac [(1, .slice A1 n1 c1), (5, .slice A149184 n149185 c149186), (9, .int .u64 x149187), (10, .int .i64 x148796)] → SH r (own (kI .u8) 5 A149184 n149185 c149186 l149183 :: L) w → Kx149133 ac w := by
    intro l149183 x149187 hF A149184 n149185 c149186 ac w hA hS
    unfold r03_As_b5 at hF
    refine hKx149133 _ _ ?_
    refine hK149027 _ _ ?_
    refine wp_reg ?_
    refine x_m hA rfl fun ac hA => ?_
    obtain ⟨x149188, h149189, hF⟩ := ltt_ hF
    refine x_v (v := .int .i64 x149188) hA (rv_i h149189 (r_add rfl (hA.ev rfl) (hA.ev rfl))) rfl fun ac hA => ?_
    refine x_m hA rfl fun ac hA => ?_
    refine wpList_nil ?_
    cases hF
    exact ⟨_, N149022_ _ rfl, A149184, n149185, c149186, hA.sub _ rfl, hS⟩
   refine wp_seq_k fun K149190 hK149190 => ?_
   refine wp_seq_k fun K149191 hK149191 => ?_
   have hj2 : ∀ (b149201 : Bool), r03_As_j2 a1 l148791 x148795 x148796 b149201 = some o149022 → ∀ (ac : Act) (w : World), FR 199 [] ac [(1, .slice A1 n1 c1), (5, .slice A148792 n148793 c148794), (9, .int .u64 x148795), (10, .int .i64 x148796), (92, .bool b149201)] → SH r (own (kI .u8) 5 A148792 n148793 c148794 l148791 :: L) w → K149191 ac w := by
    intro b149201 hF ac w hA hS
    unfold r03_As_j2 at hF
    refine hK149191 _ _ ?_
    refine c_if hA rfl (fun hb149202 => ?_) fun hb149202 => ?_
    ·replace hF := ift hb149202 hF
     refine ws fun K149203 hK149203 => ?_
     refine x_m hA rfl fun ac hA => ?_
     obtain ⟨x149204, h149205, hF⟩ := ltt_ hF
     refine x_v (v := .int .u64 x149204) hA (rv_i h149205 (r_add rfl (hA.ev rfl) (hA.ev rfl))) rfl fun ac hA => ?_
     refine x_m hA rfl fun ac hA => ?_
     refine wn (hK149203 _ _ ?_)
     refine wp_exit ?_
     exact hb5 l148791 x149204 hF A148792 n148793 c148794 ac w (hA.sub _ rfl) hS
    replace hF := iff' hb149202 hF
    refine wp_skip ?_
    refine hK149190 _ _ ?_
    refine ws fun K149206 hK149206 => ?_
    refine x_m hA rfl fun ac hA => ?_
    refine x_m hA rfl fun ac hA => ?_
    refine x_m hA rfl fun ac hA => ?_
    obtain ⟨x149207, h149208, hF⟩ := bnd hF
    refine x_ia Tryz.underlying39 sz2 (hS.rdl 1 ha1 rfl) h149208 hA (fun ac hA => ?_) rfl rfl rfl rfl rfl rfl
    obtain ⟨cs, hV, hc149209⟩ := el (hS.rdl 1 ha1 rfl) h149208
    obtain rfl := hV
    refine x_ld Tryz.underlying2 (hc149209 0 _ rfl) hA (fun ac hA => ?_) rfl rfl rfl rfl rfl rfl
    obtain ⟨y149210, h149211, hF⟩ := bnd hF
    refine x_call en78 hA (F_r03_Int (L := own (kI .u8) 5 A148792 n148793 c148794 l148791 :: L) x149207 h149211 hS) (fun v ac w hR hA => ?_) rfl rfl rfl rfl rfl
    obtain ⟨B149212, m149213, d149214, rfl, hS⟩ := hR
    obtain ⟨h149215, hF⟩ := chk_some hF
    have hr := hS.rd 0 rfl
    refine x_app 1 inf5 Tryz.underlying22 hA hS hr.1 hr.2.1 h149215 rfl (fun A149216 n149217 c149218 ac w hS hA => ?_) rfl rfl rfl rfl rfl rfl rfl rfl rfl
    refine x_m hA rfl fun ac hA => ?_
    refine wn (hK149206 _ _ ?_)
    refine ws fun K149219 hK149219 => ?_
    refine x_m hA rfl fun ac hA => ?_
    refine x_m hA rfl fun ac hA => ?_
    obtain ⟨y149220, h149221, hF⟩ := bnd hF
    refine x_call en56 hA (F_r03_Uint (L := own (kI .u8) 5 A149216 n149217 c149218 (l148791 ++ y149210) :: own (kI .u8) 5 B149212 m149213 d149214 y149210 :: L) x148795 h149221 hS) (fun v ac w hR hA => ?_) rfl rfl rfl rfl rfl
    obtain ⟨B149222, m149223, d149224, rfl, hS⟩ := hR
    obtain ⟨h149225, hF⟩ := chk_some hF
    have hr := hS.rd 0 rfl
    refine x_app 1 inf5 Tryz.underlying22 hA hS hr.1 hr.2.1 h149225 rfl (fun A149226 n149227 c149228 ac w hS hA => ?_) rfl rfl rfl rfl rfl rfl rfl rfl rfl
    refine x_m hA rfl fun ac hA => ?_
    refine wn (hK149219 _ _ ?_)
    refine wp_reg ?_
    refine x_m hA rfl fun ac hA => ?_
    refine wpList_nil ?_
    replace hS := hS.drop 1
    replace hS := hS.drop 1
    exact hb5 ((l148791 ++ y149210) ++ y149220) 0 hF A149226 n149227 c149228 ac w (hA.sub _ rfl) hS
   refine wp_draw [0, 1, 0, 4, 15, 31, 63, 63, 191, 511, 1023, 63, 63, 6207, 14399, 32767, 65535] [] rfl hA hS (by kernel_rfl) (by kernel_rfl) (by kernel_rfl) (by kernel_rfl) fun w hS => ?_
   obtain ⟨x149229, h149230, hF⟩ := ltt_ hF
   refine bcase (b := decide (x149229 < (a1.length : Int))) (fun hb149231 => ?_) fun hb149231 => ?_
   ·replace hF := ift hb149231 hF
    obtain ⟨x149232, h149233, hF⟩ := bnd hF
    obtain ⟨cs, hV, hc149234⟩ := el (hS.rdl 1 ha1 rfl) h149233
    obtain rfl := hV
    obtain ⟨x149235, h149236, hF⟩ := bnd hF
    obtain ⟨cs, hV, hc149237⟩ := el (hS.rdl 1 ha1 rfl) h149236
    obtain rfl := hV
    refine ⟨[(0, .int .i64 x148796), (1, .int .i64 x149229), (2, .slice A1 n1 c1), (3, .int .i64 (a1.length : Int)), (4, .bool (decide (x149229 < (a1.length : Int)))), (5, .bool (decide (x149229 < (a1.length : Int)))), (6, .slice A1 n1 c1), (7, .int .i64 x148796), (8, .int .i64 x149229), (9, .pointer (some (ea A1 (x149229.toNat * 1)))), (10, .int .i64 x149232), (11, .slice A1 n1 c1), (12, .int .i64 x148796), (13, .pointer (some (ea A1 (x148796.toNat * 1)))), (14, .int .i64 x149235), (15, .bool (x149232 == x149235)), (16, .bool (x149232 == x149235))], ?_⟩
    refine dEnd [0, 1, 2, 3, 4, 5, 6, 7, 8, 9, 10, 11, 12, 13, 14, 15, 16] (by kernel_rfl) ⟨pu rfl rfl [(10, .int .i64 x148796)] (fun ac hA => y_move hA rfl rfl) rfl rfl, pu rfl rfl [(76, .int .i64 x148796)] (fun ac hA => (rv_i h149230 (r_add rfl (hA.ev rfl) (hA.ev rfl)) : RunV _ _ _ _ (.int .i64 x149229))) rfl rfl, pu rfl rfl [(1, .slice A1 n1 c1)] (fun ac hA => y_move hA rfl rfl) rfl rfl, pu rfl rfl [(78, .slice A1 n1 c1)] (fun ac hA => y_len Tryz.underlying39 (hS.rdl 1 ha1 rfl).2.1 hA rfl rfl) rfl rfl, pu rfl rfl [(77, .int .i64 x149229), (79, .int .i64 (a1.length : Int))] (fun ac hA => r_ltI rfl (hA.ev rfl) (hA.ev rfl)) rfl rfl, pu rfl rfl [(80, .bool (decide (x149229 < (a1.length : Int))))] (fun ac hA => y_move hA rfl rfl) rfl rfl, puOn rfl rfl rfl rfl [(1, .slice A1 n1 c1), (81, .bool (decide (x149229 < (a1.length : Int))))] rfl hb149231 (fun ac hA => y_move hA rfl rfl) rfl, puOn rfl rfl rfl rfl [(10, .int .i64 x148796), (81, .bool (decide (x149229 < (a1.length : Int))))] rfl hb149231 (fun ac hA => y_move hA rfl rfl) rfl, puOn rfl rfl rfl rfl [(81, .bool (decide (x149229 < (a1.length : Int)))), (83, .int .i64 x148796)] rfl hb149231 (fun ac hA => (rv_i h149230 (r_add rfl (hA.ev rfl) (hA.ev rfl)) : RunV _ _ _ _ (.int .i64 x149229))) rfl, puOn rfl rfl rfl rfl [(81, .bool (decide (x149229 < (a1.length : Int)))), (82, .slice A1 n1 c1), (84, .int .i64 x149229)] rfl hb149231 (fun ac hA => y_ia Tryz.underlying39 sz2 (hS.rdl 1 ha1 rfl) h149233 hA rfl rfl rfl) rfl, puOn rfl rfl rfl rfl [(81, .bool (decide (x149229 < (a1.length : Int)))), (85, .pointer (some (ea A1 (x149229.toNat * 1))))] rfl hb149231 (fun ac hA => y_ld Tryz.underlying2 (hc149234 0 _ rfl) hA rfl rfl rfl) rfl, puOn rfl rfl rfl rfl [(1, .slice A1 n1 c1), (81, .bool (decide (x149229 < (a1.length : Int))))] rfl hb149231 (fun ac hA => y_move hA rfl rfl) rfl, puOn rfl rfl rfl rfl [(10, .int .i64 x148796), (81, .bool (decide (x149229 < (a1.length : Int))))] rfl hb149231 (fun ac hA => y_move hA rfl rfl) rfl, puOn rfl rfl rfl rfl [(81, .bool (decide (x149229 < (a1.length : Int)))), (87, .slice A1 n1 c1), (88, .int .i64 x148796)] rfl hb149231 (fun ac hA => y_ia Tryz.underlying39 sz2 (hS.rdl 1 ha1 rfl) h149236 hA rfl rfl rfl) rfl, puOn rfl rfl rfl rfl [(81, .bool (decide (x149229 < (a1.length : Int)))), (89, .pointer (some (ea A1 (x148796.toNat * 1))))] rfl hb149231 (fun ac hA => y_ld Tryz.underlying2 (hc149237 0 _ rfl) hA rfl rfl rfl) rfl, puOn rfl rfl rfl rfl [(81, .bool (decide (x149229 < (a1.length : Int)))), (86, .int .i64 x149232), (90, .int .i64 x149235)] rfl hb149231 (fun ac hA => r_eqI rfl (hA.ev rfl) (hA.ev rfl)) rfl, pu rfl rfl [(81, .bool (decide (x149229 < (a1.length : Int)))), (91, .bool (x149232 == x149235))] (fun ac hA => y_pickt hb149231 hA rfl rfl rfl) rfl rfl, trivial⟩ ⟨by kernel_rfl, by kernel_rfl⟩ [(1, .slice A1 n1 c1), (5, .slice A148792 n148793 c148794), (9, .int .u64 x148795), (10, .int .i64 x148796), (82, .slice A1 n1 c1), (83, .int .i64 x148796), (84, .int .i64 x149229), (86, .int .i64 x149232), (87, .slice A1 n1 c1), (88, .int .i64 x148796), (90, .int .i64 x149235), (91, .bool (x149232 == x149235)), (92, .bool (x149232 == x149235))] rfl (fun ac hA => ?_)
    exact hj2 (x149232 == x149235) hF ac w (hA.sub _ rfl) hS
   replace hF := iff' hb149231 hF
   refine ⟨[(0, .int .i64 x148796), (1, .int .i64 x149229), (2, .slice A1 n1 c1), (3, .int .i64 (a1.length : Int)), (4, .bool (decide (x149229 < (a1.length : Int)))), (5, .bool (decide (x149229 < (a1.length : Int)))), (6, undef), (7, undef), (8, undef), (9, undef), (10, undef), (11, undef), (12, undef), (13, undef), (14, undef), (15, undef), (16, .bool false)], ?_⟩
   refine dEnd [0, 1, 2, 3, 4, 5, 6, 7, 8, 9, 10, 11, 12, 13, 14, 15, 16] (by kernel_rfl) ⟨pu rfl rfl [(10, .int .i64 x148796)] (fun ac hA => y_move hA rfl rfl) rfl rfl, pu rfl rfl [(76, .int .i64 x148796)] (fun ac hA => (rv_i h149230 (r_add rfl (hA.ev rfl) (hA.ev rfl)) : RunV _ _ _ _ (.int .i64 x149229))) rfl rfl, pu rfl rfl [(1, .slice A1 n1 c1)] (fun ac hA => y_move hA rfl rfl) rfl rfl, pu rfl rfl [(78, .slice A1 n1 c1)] (fun ac hA => y_len Tryz.underlying39 (hS.rdl 1 ha1 rfl).2.1 hA rfl rfl) rfl rfl, pu rfl rfl [(77, .int .i64 x149229), (79, .int .i64 (a1.length : Int))] (fun ac hA => r_ltI rfl (hA.ev rfl) (hA.ev rfl)) rfl rfl, pu rfl rfl [(80, .bool (decide (x149229 < (a1.length : Int))))] (fun ac hA => y_move hA rfl rfl) rfl rfl, puOff rfl rfl rfl rfl [(1, .slice A1 n1 c1), (81, .bool (decide (x149229 < (a1.length : Int))))] rfl hb149231 rfl, puOff rfl rfl rfl rfl [(10, .int .i64 x148796), (81, .bool (decide (x149229 < (a1.length : Int))))] rfl hb149231 rfl, puOff rfl rfl rfl rfl [(81, .bool (decide (x149229 < (a1.length : Int)))), (83, undef)] rfl hb149231 rfl, puOff rfl rfl rfl rfl [(81, .bool (decide (x149229 < (a1.length : Int)))), (82, undef), (84, undef)] rfl hb149231 rfl, puOff rfl rfl rfl rfl [(81, .bool (decide (x149229 < (a1.length : Int)))), (85, undef)] rfl hb149231 rfl, puOff rfl rfl rfl rfl [(1, .slice A1 n1 c1), (81, .bool (decide (x149229 < (a1.length : Int))))] rfl hb149231 rfl, puOff rfl rfl rfl rfl [(10, .int .i64 x148796), (81, .bool (decide (x149229 < (a1.length : Int))))] rfl hb149231 rfl, puOff rfl rfl rfl rfl [(81, .bool (decide (x149229 < (a1.length : Int)))), (87, undef), (88, undef)] rfl hb149231 rfl, puOff rfl rfl rfl rfl [(81, .bool (decide (x149229 < (a1.length : Int)))), (89, undef)] rfl hb149231 rfl, puOff rfl rfl rfl rfl [(81, .bool (decide (x149229 < (a1.length : Int)))), (86, undef), (90, undef)] rfl hb149231 rfl, pu rfl rfl [(81, .bool (decide (x149229 < (a1.length : Int)))), (91, undef)] (fun ac hA => y_pickf hb149231 hA rfl rfl rfl) rfl rfl, trivial⟩ ⟨by kernel_rfl, by kernel_rfl⟩ [(1, .slice A1 n1 c1), (5, .slice A148792 n148793 c148794), (9, .int .u64 x148795), (10, .int .i64 x148796), (92, .bool false)] rfl (fun ac hA => ?_)
   exact hj2 false hF ac w (hA.sub _ rfl) hS
  replace hF := iff' hb149026 hF
  refine wp_exit ?_
  cases hF
  exact hx149022_5 l148791 (T149022_ _ rfl) A148792 n148793 c148794 ac w (hA.sub _ rfl) hS
 replace hF := iff' hb147890 hF
 refine ws fun K149238 hK149238 => ?_
 refine x_v hA (r_eqI rfl (hA.ev rfl) (hA.ev rfl)) rfl fun ac hA => ?_
 refine x_m hA rfl fun ac hA => ?_
 refine wn (hK149238 _ _ ?_)
 refine c_if hA rfl (fun hb149239 => ?_) fun hb149239 => ?_
 ·replace hF := ift hb149239 hF
  refine wp_seq_k fun K149240 hK149240 => ?_
  refine ws fun K149241 hK149241 => ?_
  refine x_m hA rfl fun ac hA => ?_
  refine x_len Tryz.underlying39 (hS.rdl 2 ha1 rfl).2.1 hA (fun ac hA => ?_) rfl rfl rfl rfl rfl
  refine x_v hA (r_eqI rfl (hA.ev rfl) (hA.ev rfl)) rfl fun ac hA => ?_
  refine wn (hK149241 _ _ ?_)
  refine c_if hA rfl (fun hb149242 => ?_) fun hb149242 => ?_
  ·replace hF := ift hb149242 hF
   refine ws fun K149243 hK149243 => ?_
   refine x_m hA rfl fun ac hA => ?_
   refine x_m hA rfl fun ac hA => ?_
   refine wn (hK149243 _ _ ?_)
   refine wp_ret ?_
   replace hS := hS.drop 1
   cases hF
   refine hQ _ _ ?_
   refine lv Tryz.results57 hA rfl ?_
   exact ⟨A113, n114, c115, rfl, hS⟩
  replace hF := iff' hb149242 hF
  refine wp_skip ?_
  refine hK149240 _ _ ?_
  refine ws fun K149244 hK149244 => ?_
  refine x_m hA rfl fun ac hA => ?_
  obtain ⟨x149245, h149246, hF⟩ := bnd hF
  refine x_ia Tryz.underlying39 sz2 (hS.rdl 2 ha1 rfl) h149246 hA (fun ac hA => ?_) rfl rfl rfl rfl rfl rfl
  obtain ⟨cs, hV, hc149247⟩ := el (hS.rdl 2 ha1 rfl) h149246
  obtain rfl := hV
  refine x_ld Tryz.underlying2 (hc149247 0 _ rfl) hA (fun ac hA => ?_) rfl rfl rfl rfl rfl rfl
  refine x_m hA rfl fun ac hA => ?_
  refine wn (hK149244 _ _ ?_)
  refine wp_seq_k fun K149248 hK149248 => ?_
  refine ws fun K149485 hK149485 => ?_
  refine x_m hA rfl fun ac hA => ?_
  refine wn (hK149485 _ _ ?_)
  refine wp_block_k fun Kx149486 hKx149486 => ?_
  have hb6 : ∀ (x149603 : Int), r03_As_b6 a0 a1 y107 x149603 = some y → ∀ (ac : Act) (w : World), FR 199 [] ac [(1, .slice A1 n1 c1), (5, .slice A113 n114 c115), (11, .int .i64 x149603)] → SH r (own (kI .u8) 5 A113 n114 c115 ([a0] ++ y107) :: L) w → Kx149486 ac w := by
   intro x149603 hF ac w hA hS
   unfold r03_As_b6 at hF
   refine hKx149486 _ _ ?_
   refine hK149248 _ _ ?_
   refine ws fun K149604 hK149604 => ?_
   refine x_m hA rfl fun ac hA => ?_
   refine wn (hK149604 _ _ ?_)
   refine wp_seq_k fun K149605 hK149605 => ?_
   refine ws fun K149986 hK149986 => ?_
   refine x_m hA rfl fun ac hA => ?_
   refine wn (hK149986 _ _ ?_)
   refine wp_block_k fun Kx149987 hKx149987 => ?_
   have hb7 : ∀ (x150176 : Int), r03_As_b7 a0 a1 y107 x149603 x150176 = some y → ∀ (ac : Act) (w : World), FR 199 [] ac [(1, .slice A1 n1 c1), (5, .slice A113 n114 c115), (11, .int .i64 x149603), (13, .int .i64 x150176)] → SH r (own (kI .u8) 5 A113 n114 c115 ([a0] ++ y107) :: L) w → Kx149987 ac w := by
    intro x150176 hF ac w hA hS
    unfold r03_As_b7 at hF
    refine hKx149987 _ _ ?_
    refine hK149605 _ _ ?_
    refine ws fun K150177 hK150177 => ?_
    refine x_m hA rfl fun ac hA => ?_
    refine x_m hA rfl fun ac hA => ?_
    obtain ⟨y150178, h150179, hF⟩ := bnd hF
    refine x_call en78 hA (F_r03_Int (L := own (kI .u8) 5 A113 n114 c115 ([a0] ++ y107) :: L) x149603 h150179 hS) (fun v ac w hR hA => ?_) rfl rfl rfl rfl rfl
    obtain ⟨B150180, m150181, d150182, rfl, hS⟩ := hR
    obtain ⟨h150183, hF⟩ := chk_some hF
    have hr := hS.rd 0 rfl
    refine x_app 1 inf5 Tryz.underlying22 hA hS hr.1 hr.2.1 h150183 rfl (fun A150184 n150185 c150186 ac w hS hA => ?_) rfl rfl rfl rfl rfl rfl rfl rfl rfl
    refine x_m hA rfl fun ac hA => ?_
    refine wn (hK150177 _ _ ?_)
    refine ws fun K150187 hK150187 => ?_
    refine x_m hA rfl fun ac hA => ?_
    refine x_m hA rfl fun ac hA => ?_
    obtain ⟨x150188, h150189, hF⟩ := ltt_ hF
    refine x_v (v := .int .u8 x150188) hA (rv_i h150189 (r_convI Tryz.underlying3 Tryz.underlying5 rfl (hA.ev rfl))) rfl fun ac hA => ?_
    refine x_bsl (d := (kI .u8)) (e := 5) (ps := #[(0, .int .u8 x150188)]) (cells := [.int .u8 x150188]) (xs := [x150188]) (fun w => by kernel_rfl) rfl ⟨[.int .u8 x150188], _, rfl, rfl, rfl⟩ hA hS (fun g150190 ac w hS hA => ?_) rfl rfl rfl rfl rfl rfl
    obtain ⟨h150191, hF⟩ := chk_some hF
    have hr := hS.rd 0 rfl
    refine x_app 1 inf5 Tryz.underlying22 hA hS hr.1 hr.2.1 h150191 rfl (fun A150192 n150193 c150194 ac w hS hA => ?_) rfl rfl rfl rfl rfl rfl rfl rfl rfl
    refine x_m hA rfl fun ac hA => ?_
    refine wn (hK150187 _ _ ?_)
    refine ws fun K150195 hK150195 => ?_
    refine x_m hA rfl fun ac hA => ?_
    refine wn (hK150195 _ _ ?_)
    refine ws fun K150196 hK150196 => ?_
    refine x_m hA rfl fun ac hA => ?_
    refine wn (hK150196 _ _ ?_)
    refine wp_seq_k fun K150197 hK150197 => ?_
    refine ws fun K173215 hK173215 => ?_
    refine x_m hA rfl fun ac hA => ?_
    refine wn (hK173215 _ _ ?_)
    refine wp_block_k fun Kx173216 hKx173216 => ?_
    have hb8 : ∀ (l184721 : (List Int)) (x184725 : Int) (x184726 : Int), r03_As_b8 l184721 x184725 x184726 = some y → ∀ (A184722 : Option Addr) (n184723 : Nat) (c184724 : Nat) (ac : Act) (w : World), FR 199 [] ac [(5, .slice A184722 n184723 c184724), (16, .int .u8 x184725), (17, .int .i64 x184726)] → SH r (own (kI .u8) 5 A184722 n184723 c184724 l184721 :: L) w → Kx173216 ac w := by
     intro l184721 x184725 x184726 hF A184722 n184723 c184724 ac w hA hS
     unfold r03_As_b8 at hF
     refine hKx173216 _ _ ?_
     refine hK150197 _ _ ?_
     refine ws fun K184727 hK184727 => ?_
     refine x_m hA rfl fun ac hA => ?_
     refine x_v hA (r_gtI rfl (hA.ev rfl) (hA.ev rfl)) rfl fun ac hA => ?_
     refine wn (hK184727 _ _ ?_)
     refine c_if hA rfl (fun hb184728 => ?_) fun hb184728 => ?_
     ·replace hF := ift hb184728 hF
      refine wp_reg ?_
      refine x_m hA rfl fun ac hA => ?_
      refine x_m hA rfl fun ac hA => ?_
      refine x_bsl (d := (kI .u8)) (e := 5) (ps := #[(0, .int .u8 x184725)]) (cells := [.int .u8 x184725]) (xs := [x184725]) (fun w => by kernel_rfl) rfl ⟨[.int .u8 x184725], _, rfl, rfl, rfl⟩ hA hS (fun g184729 ac w hS hA => ?_) rfl rfl rfl rfl rfl rfl
      obtain ⟨h184730, hF⟩ := chk_some hF
      have hr := hS.rd 0 rfl
      refine x_app 1 inf5 Tryz.underlying22 hA hS hr.1 hr.2.1 h184730 rfl (fun A184731 n184732 c184733 ac w hS hA => ?_) rfl rfl rfl rfl rfl rfl rfl rfl rfl
      refine x_m hA rfl fun ac hA => ?_
      refine wpList_nil ?_
      replace hS := hS.drop 1
      exact hb1 (l184721 ++ [x184725]) hF A184731 n184732 c184733 ac w (hA.sub _ rfl) hS
     replace hF := iff' hb184728 hF
     refine wp_skip ?_
     exact hb1 l184721 hF A184722 n184723 c184724 ac w (hA.sub _ rfl) hS
    obtain ⟨t192400, hl192400, hF⟩ := bnd hF
    have hx192400_11 : ∀ (l192395 : (List Int)) (x192399 : Int) (x192400 : Int), (l192395, x192399, x192400) = t192400 → ∀ (A192396 : Option Addr) (n192397 : Nat) (c192398 : Nat) (ac : Act) (w : World), FR 199 [] ac [(5, .slice A192396 n192397 c192398), (16, .int .u8 x192399), (17, .int .i64 x192400)] → SH r (own (kI .u8) 5 A192396 n192397 c192398 l192395 :: L) w → Kx173216 ac w := by
     intro l192395 x192399 x192400 ht A192396 n192397 c192398 ac w hA hS
     subst ht
     replace hF : r03_As_x4_11 l192395 x192399 x192400 = some y := hF
     unfold r03_As_x4_11 at hF
     exact hb8 l192395 x192399 x192400 hF A192396 n192397 c192398 ac w (hA.sub _ rfl) hS
    replace hS := hS.drop 1
    replace hS := hS.drop 1
    refine wp_loop_fn hl192400 (fun s ac w => ∃ (A188546 : Option Addr) (n188547 : Nat) (c188548 : Nat), FR 199 [] ac [(1, .slice A1 n1 c1), (5, .slice A188546 n188547 c188548), (11, .int .i64 x149603), (13, .int .i64 x150176), (16, .int .u8 s.2.1), (17, .int .i64 s.2.2.1), (18, .int .i64 s.2.2.2)] ∧ SH r (own (kI .u8) 5 A188546 n188547 c188548 s.1 :: L) w) ⟨A150192, n150193, c150194, hA.sub _ rfl, hS⟩ ?_
    intro N192400 s192400 o192400 hF N192400_ T192400_ ac w hLab
    obtain ⟨l188545, x188549, x188550, x188551⟩ := s192400
    replace hF : r03_As_l4 a1 x149603 x150176 l188545 x188549 x188550 x188551 = some o192400 := hF
    unfold r03_As_l4 at hF
    try dsimp only at hLab
    obtain ⟨A188546, n188547, c188548, hA, hS⟩ := hLab
    refine wp_seq_k fun K192402 hK192402 => ?_
    refine ws fun K192403 hK192403 => ?_
    refine x_m hA rfl fun ac hA => ?_
    refine x_m hA rfl fun ac hA => ?_
    refine x_len Tryz.underlying39 (hS.rdl 1 ha1 rfl).2.1 hA (fun ac hA => ?_) rfl rfl rfl rfl rfl
    refine x_v hA (r_ltI rfl (hA.ev rfl) (hA.ev rfl)) rfl fun ac hA => ?_
    refine wn (hK192403 _ _ ?_)
    refine c_if hA rfl (fun hb192404 => ?_) fun hb192404 => ?_
    ·replace hF := ift hb192404 hF
     refine wp_skip ?_
     refine hK192402 _ _ ?_
     refine wp_seq_k fun K192405 hK192405 => ?_
     refine wp_block_k fun Kx194321 hKx194321 => ?_
     refine ws fun K195279 hK195279 => ?_
     refine x_m hA rfl fun ac hA => ?_
     refine wn (hK195279 _ _ ?_)
     refine wp_block_k fun Kx195280 hKx195280 => ?_
     have hb9 : ∀ (l195755 : (List Int)) (x195759 : Int) (x195760 : Int), r03_As_b9 x188551 l195755 x195759 x195760 = some o192400 → ∀ (A195756 : Option Addr) (n195757 : Nat) (c195758 : Nat) (ac : Act) (w : World), FR 199 [] ac [(1, .slice A1 n1 c1), (5, .slice A195756 n195757 c195758), (11, .int .i64 x149603), (13, .int .i64 x150176), (16, .int .u8 x195759), (17, .int .i64 x195760), (18, .int .i64 x188551)] → SH r (own (kI .u8) 5 A195756 n195757 c195758 l195755 :: L) w → Kx195280 ac w := by
      intro l195755 x195759 x195760 hF A195756 n195757 c195758 ac w hA hS
      unfold r03_As_b9 at hF
      refine hKx195280 _ _ ?_
      refine hKx194321 _ _ ?_
      refine hK192405 _ _ ?_
      refine wp_reg ?_
      refine x_m hA rfl fun ac hA => ?_
      obtain ⟨x195761, h195762, hF⟩ := ltt_ hF
      refine x_v (v := .int .i64 x195761) hA (rv_i h195762 (r_add rfl (hA.ev rfl) (hA.ev rfl))) rfl fun ac hA => ?_
      refine x_m hA rfl fun ac hA => ?_
      refine wpList_nil ?_
      cases hF
      exact ⟨_, N192400_ _ rfl, A195756, n195757, c195758, hA.sub _ rfl, hS⟩
     obtain ⟨t196085, hl196085, hF⟩ := bnd hF
     have hx196085_13 : ∀ (l196080 : (List Int)) (x196084 : Int) (x196085 : Int), (l196080, x196084, x196085) = t196085 → ∀ (A196081 : Option Addr) (n196082 : Nat) (c196083 : Nat) (ac : Act) (w : World), FR 199 [] ac [(1, .slice A1 n1 c1), (5, .slice A196081 n196082 c196083), (11, .int .i64 x149603), (13, .int .i64 x150176), (16, .int .u8 x196084), (17, .int .i64 x196085), (18, .int .i64 x188551)] → SH r (own (kI .u8) 5 A196081 n196082 c196083 l196080 :: L) w → Kx195280 ac w := by
      intro l196080 x196084 x196085 ht A196081 n196082 c196083 ac w hA hS
      subst ht
      replace hF : r03_As_x5_13 x188551 l196080 x196084 x196085 = some o192400 := hF
      unfold r03_As_x5_13 at hF
      exact hb9 l196080 x196084 x196085 hF A196081 n196082 c196083 ac w (hA.sub _ rfl) hS
     refine wp_loop_fn hl196085 (fun s ac w => ∃ (A195917 : Option Addr) (n195918 : Nat) (c195919 : Nat), FR 199 [] ac [(1, .slice A1 n1 c1), (5, .slice A195917 n195918 c195919), (11, .int .i64 x149603), (13, .int .i64 x150176), (16, .int .u8 s.2.1), (17, .int .i64 s.2.2.1), (18, .int .i64 x188551), (19, .int .i64 s.2.2.2)] ∧ SH r (own (kI .u8) 5 A195917 n195918 c195919 s.1 :: L) w) ⟨A188546, n188547, c188548, hA.sub _ rfl, hS⟩ ?_
     intro N196085 s196085 o196085 hF N196085_ T196085_ ac w hLab
     obtain ⟨l195916, x195920, x195921, x195922⟩ := s196085
     replace hF : r03_As_l5 a1 x149603 x150176 x188551 l195916 x195920 x195921 x195922 = some o196085 := hF
     unfold r03_As_l5 at hF
     try dsimp only at hLab
     obtain ⟨A195917, n195918, c195919, hA, hS⟩ := hLab
     refine wp_seq_k fun K196087 hK196087 => ?_
     refine ws fun K196088 hK196088 => ?_
     refine x_m hA rfl fun ac hA => ?_
     refine x_m hA rfl fun ac hA => ?_
     refine x_v hA (r_ltI rfl (hA.ev rfl) (hA.ev rfl)) rfl fun ac hA => ?_
     refine wn (hK196088 _ _ ?_)
     refine c_if hA rfl (fun hb196089 => ?_) fun hb196089 => ?_
     ·replace hF := ift hb196089 hF
      refine wp_skip ?_
      refine hK196087 _ _ ?_
      refine wp_seq_k fun K196090 hK196090 => ?_
      refine wp_block_k fun Kx196163 hKx196163 => ?_
      have hb10 : ∀ (l196196 : (List Int)) (x196200 : Int) (x196201 : Int), r03_As_b10 x195922 l196196 x196200 x196201 = some o196085 → ∀ (A196197 : Option Addr) (n196198 : Nat) (c196199 : Nat) (ac : Act) (w : World), FR 199 [] ac [(1, .slice A1 n1 c1), (5, .slice A196197 n196198 c196199), (11, .int .i64 x149603), (13, .int .i64 x150176), (16, .int .u8 x196200), (17, .int .i64 x196201), (18, .int .i64 x188551), (19, .int .i64 x195922)] → SH r (own (kI .u8) 5 A196197 n196198 c196199 l196196 :: L) w → Kx196163 ac w := by
       intro l196196 x196200 x196201 hF A196197 n196198 c196199 ac w hA hS
       unfold r03_As_b10 at hF
       refine hKx196163 _ _ ?_
       refine hK196090 _ _ ?_
       refine wp_reg ?_
       refine x_m hA rfl fun ac hA => ?_
       obtain ⟨x196202, h196203, hF⟩ := ltt_ hF
       refine x_v (v := .int .i64 x196202) hA (rv_i h196203 (r_add rfl (hA.ev rfl) (hA.ev rfl))) rfl fun ac hA => ?_
       refine x_m hA rfl fun ac hA => ?_
       refine wpList_nil ?_
       cases hF
       exact ⟨_, N196085_ _ rfl, A196197, n196198, c196199, hA.sub _ rfl, hS⟩
      refine ws fun K196204 hK196204 => ?_
      refine x_m hA rfl fun ac hA => ?_
      refine x_m hA rfl fun ac hA => ?_
      refine x_m hA rfl fun ac hA => ?_
      obtain ⟨x196205, h196206, hF⟩ := bnd hF
      refine x_ia Tryz.underlying39 sz2 (hS.rdl 1 ha1 rfl) h196206 hA (fun ac hA => ?_) rfl rfl rfl rfl rfl rfl
      obtain ⟨cs, hV, hc196207⟩ := el (hS.rdl 1 ha1 rfl) h196206
      obtain rfl := hV
      refine x_ld Tryz.underlying2 (hc196207 0 _ rfl) hA (fun ac hA => ?_) rfl rfl rfl rfl rfl rfl
      refine x_m hA rfl fun ac hA => ?_
      obtain ⟨x196208, h196209, hF⟩ := ltt_ hF
      refine x_v (v := .int .i64 x196208) hA (rv_i h196209 (r_sub rfl (hA.ev rfl) (hA.ev rfl))) rfl fun ac hA => ?_
      obtain ⟨x196210, h196211, hF⟩ := ltt_ hF
      refine x_v (v := .int .u64 x196210) hA (rv_i h196211 (r_convI Tryz.underlying2 Tryz.underlying34 rfl (hA.ev rfl))) rfl fun ac hA => ?_
      refine x_m hA rfl fun ac hA => ?_
      obtain ⟨h196212, hF⟩ := chk_some hF
      obtain ⟨x196213, h196214, hF⟩ := ltt_ hF
      refine x_v (v := .int .u64 x196213) hA (rv_i h196214 (r_shr rfl (hA.ev rfl) (hA.ev rfl) h196212)) rfl fun ac hA => ?_
      obtain ⟨x196215, h196216, hF⟩ := ltt_ hF
      refine x_v (v := .int .u64 x196215) hA (rv_i h196216 (r_rem rfl (hA.ev rfl) (hA.ev rfl) (by decide))) rfl fun ac hA => ?_
      obtain ⟨x196217, h196218, hF⟩ := ltt_ hF
      refine x_v (v := .int .u8 x196217) hA (rv_i h196218 (r_convI Tryz.underlying34 Tryz.underlying5 rfl (hA.ev rfl))) rfl fun ac hA => ?_
      refine x_m hA rfl fun ac hA => ?_
      obtain ⟨h196219, hF⟩ := chk_some hF
      obtain ⟨x196220, h196221, hF⟩ := ltt_ hF
      refine x_v (v := .int .u8 x196220) hA (rv_i h196221 (r_shl rfl (hA.ev rfl) (hA.ev rfl) h196219)) rfl fun ac hA => ?_
      obtain ⟨x196222, h196223, hF⟩ := ltt_ hF
      refine x_v (v := .int .u8 x196222) hA (rv_i h196223 (r_add rfl (hA.ev rfl) (hA.ev rfl))) rfl fun ac hA => ?_
      refine x_m hA rfl fun ac hA => ?_
      refine wn (hK196204 _ _ ?_)
      refine ws fun K196224 hK196224 => ?_
      refine x_m hA rfl fun ac hA => ?_
      obtain ⟨x196225, h196226, hF⟩ := ltt_ hF
      refine x_v (v := .int .i64 x196225) hA (rv_i h196226 (r_add rfl (hA.ev rfl) (hA.ev rfl))) rfl fun ac hA => ?_
      refine x_m hA rfl fun ac hA => ?_
      refine wn (hK196224 _ _ ?_)
      refine ws fun K196227 hK196227 => ?_
      refine x_m hA rfl fun ac hA => ?_
      refine x_v hA (r_eqI rfl (hA.ev rfl) (hA.ev rfl)) rfl fun ac hA => ?_
      refine wn (hK196227 _ _ ?_)
      refine c_if hA rfl (fun hb196228 => ?_) fun hb196228 => ?_
      ·replace hF := ift hb196228 hF
       refine ws fun K196229 hK196229 => ?_
       refine x_m hA rfl fun ac hA => ?_
       refine x_m hA rfl fun ac hA => ?_
       refine x_bsl (d := (kI .u8)) (e := 5) (ps := #[(0, .int .u8 x196222)]) (cells := [.int .u8 x196222]) (xs := [x196222]) (fun w => by kernel_rfl) rfl ⟨[.int .u8 x196222], _, rfl, rfl, rfl⟩ hA hS (fun g196230 ac w hS hA => ?_) rfl rfl rfl rfl rfl rfl
       obtain ⟨h196231, hF⟩ := chk_some hF
       have hr := hS.rd 0 rfl
       refine x_app 1 inf5 Tryz.underlying22 hA hS hr.1 hr.2.1 h196231 rfl (fun A196232 n196233 c196234 ac w hS hA => ?_) rfl rfl rfl rfl rfl rfl rfl rfl rfl
       refine x_m hA rfl fun ac hA => ?_
       refine wn (hK196229 _ _ ?_)
       refine ws fun K196235 hK196235 => ?_
       refine x_m hA rfl fun ac hA => ?_
       refine wn (hK196235 _ _ ?_)
       refine wp_reg ?_
       refine x_m hA rfl fun ac hA => ?_
       refine wpList_nil ?_
       replace hS := hS.drop 1
       exact hb10 (l195916 ++ [x196222]) 0 0 hF A196232 n196233 c196234 ac w (hA.sub _ rfl) hS
      replace hF := iff' hb196228 hF
      refine wp_skip ?_
      exact hb10 l195916 x196222 x196225 hF A195917 n195918 c195919 ac w (hA.sub _ rfl) hS
     replace hF := iff' hb196089 hF
     refine wp_exit ?_
     cases hF
     exact hx196085_13 l195916 x195920 x195921 (T196085_ _ rfl) A195917 n195918 c195919 ac w (hA.sub _ rfl) hS
    replace hF := iff' hb192404 hF
    refine wp_exit ?_
    cases hF
    exact hx192400_11 l188545 x188549 x188550 (T192400_ _ rfl) A188546 n188547 c188548 ac w (hA.sub _ rfl) hS
   obtain ⟨t196362, hl196362, hF⟩ := bnd hF
   have hx196362_9 : ∀ (x196362 : Int), (x196362) = t196362 → ∀ (ac : Act) (w : World), FR 199 [] ac [(1, .slice A1 n1 c1), (5, .slice A113 n114 c115), (11, .int .i64 x149603), (13, .int .i64 x196362)] → SH r (own (kI .u8) 5 A113 n114 c115 ([a0] ++ y107) :: L) w → Kx149987 ac w := by
    intro x196362 ht ac w hA hS
    subst ht
    replace hF : r03_As_x6_9 a0 a1 y107 x149603 x196362 = some y := hF
    unfold r03_As_x6_9 at hF
    exact hb7 x196362 hF ac w (hA.sub _ rfl) hS
   refine wp_loop_fn hl196362 (fun s ac w => FR 199 [] ac [(1, .slice A1 n1 c1), (5, .slice A113 n114 c115), (11, .int .i64 x149603), (13, .int .i64 s.1), (14, .int .i64 s.2)] ∧ SH r (own (kI .u8) 5 A113 n114 c115 ([a0] ++ y107) :: L) w) ⟨hA.sub _ rfl, hS⟩ ?_
   intro N196362 s196362 o196362 hF N196362_ T196362_ ac w hLab
   obtain ⟨x196298, x196299⟩ := s196362
   replace hF : r03_As_l6 a1 x149603 x196298 x196299 = some o196362 := hF
   unfold r03_As_l6 at hF
   try dsimp only at hLab
   obtain ⟨hA, hS⟩ := hLab
   refine wp_seq_k fun K196364 hK196364 => ?_
   refine ws fun K196365 hK196365 => ?_
   refine x_m hA rfl fun ac hA => ?_
   refine x_m hA rfl fun ac hA => ?_
   refine x_len Tryz.underlying39 (hS.rdl 1 ha1 rfl).2.1 hA (fun ac hA => ?_) rfl rfl rfl rfl rfl
   refine x_v hA (r_ltI rfl (hA.ev rfl) (hA.ev rfl)) rfl fun ac hA => ?_
   refine wn (hK196365 _ _ ?_)
   refine c_if hA rfl (fun hb196366 => ?_) fun hb196366 => ?_
   ·replace hF := ift hb196366 hF
    refine wp_skip ?_
    refine hK196364 _ _ ?_
    refine wp_seq_k fun K196367 hK196367 => ?_
    refine wp_block_k fun Kx196395 hKx196395 => ?_
    have hb11 : ∀ (x196408 : Int), r03_As_b11 x196299 x196408 = some o196362 → ∀ (ac : Act) (w : World), FR 199 [] ac [(1, .slice A1 n1 c1), (5, .slice A113 n114 c115), (11, .int .i64 x149603), (13, .int .i64 x196408), (14, .int .i64 x196299)] → SH r (own (kI .u8) 5 A113 n114 c115 ([a0] ++ y107) :: L) w → Kx196395 ac w := by
     intro x196408 hF ac w hA hS
     unfold r03_As_b11 at hF
     refine hKx196395 _ _ ?_
     refine hK196367 _ _ ?_
     refine wp_reg ?_
     refine x_m hA rfl fun ac hA => ?_
     obtain ⟨x196409, h196410, hF⟩ := ltt_ hF
     refine x_v (v := .int .i64 x196409) hA (rv_i h196410 (r_add rfl (hA.ev rfl) (hA.ev rfl))) rfl fun ac hA => ?_
     refine x_m hA rfl fun ac hA => ?_
     refine wpList_nil ?_
     cases hF
     exact ⟨_, N196362_ _ rfl, hA.sub _ rfl, hS⟩
    refine ws fun K196411 hK196411 => ?_
    refine x_m hA rfl fun ac hA => ?_
    refine x_m hA rfl fun ac hA => ?_
    obtain ⟨x196412, h196413, hF⟩ := bnd hF
    refine x_ia Tryz.underlying39 sz2 (hS.rdl 1 ha1 rfl) h196413 hA (fun ac hA => ?_) rfl rfl rfl rfl rfl rfl
    obtain ⟨cs, hV, hc196414⟩ := el (hS.rdl 1 ha1 rfl) h196413
    obtain rfl := hV
    refine x_ld Tryz.underlying2 (hc196414 0 _ rfl) hA (fun ac hA => ?_) rfl rfl rfl rfl rfl rfl
    refine x_m hA rfl fun ac hA => ?_
    obtain ⟨x196415, h196416, hF⟩ := ltt_ hF
    refine x_v (v := .int .i64 x196415) hA (rv_i h196416 (r_sub rfl (hA.ev rfl) (hA.ev rfl))) rfl fun ac hA => ?_
    obtain ⟨x196417, h196418, hF⟩ := ltt_ hF
    refine x_v (v := .int .u64 x196417) hA (rv_i h196418 (r_convI Tryz.underlying2 Tryz.underlying34 rfl (hA.ev rfl))) rfl fun ac hA => ?_
    obtain ⟨y196419, h196420, hF⟩ := bnd hF
    refine x_call en79 hA (F_r03_width (L := own (kI .u8) 5 A113 n114 c115 ([a0] ++ y107) :: L) x196417 h196420 hS) (fun v ac w hR hA => ?_) rfl rfl rfl rfl rfl
    obtain ⟨rfl, hS⟩ := hR
    refine x_m hA rfl fun ac hA => ?_
    refine wn (hK196411 _ _ ?_)
    refine ws fun K196421 hK196421 => ?_
    refine x_m hA rfl fun ac hA => ?_
    refine x_m hA rfl fun ac hA => ?_
    refine x_v hA (r_gtI rfl (hA.ev rfl) (hA.ev rfl)) rfl fun ac hA => ?_
    refine wn (hK196421 _ _ ?_)
    refine c_if hA rfl (fun hb196422 => ?_) fun hb196422 => ?_
    ·replace hF := ift hb196422 hF
     refine wp_reg ?_
     refine x_m hA rfl fun ac hA => ?_
     refine x_m hA rfl fun ac hA => ?_
     refine wpList_nil ?_
     exact hb11 y196419 hF ac w (hA.sub _ rfl) hS
    replace hF := iff' hb196422 hF
    refine wp_skip ?_
    exact hb11 x196298 hF ac w (hA.sub _ rfl) hS
   replace hF := iff' hb196366 hF
   refine wp_exit ?_
   cases hF
   exact hx196362_9 x196298 (T196362_ _ rfl) ac w (hA.sub _ rfl) hS
  obtain ⟨t196501, hl196501, hF⟩ := bnd hF
  have hx196501_7 : ∀ (x196501 : Int), (x196501) = t196501 → ∀ (ac : Act) (w : World), FR 199 [] ac [(1, .slice A1 n1 c1), (5, .slice A113 n114 c115), (11, .int .i64 x196501)] → SH r (own (kI .u8) 5 A113 n114 c115 ([a0] ++ y107) :: L) w → Kx149486 ac w := by
   intro x196501 ht ac w hA hS
   subst ht
   replace hF : r03_As_x7_7 a0 a1 y107 x196501 = some y := hF
   unfold r03_As_x7_7 at hF
   exact hb6 x196501 hF ac w (hA.sub _ rfl) hS
  replace hS := hS.drop 1
  refine wp_loop_fn hl196501 (fun s ac w => FR 199 [] ac [(1, .slice A1 n1 c1), (5, .slice A113 n114 c115), (11, .int .i64 s.1), (12, .int .i64 s.2)] ∧ SH r (own (kI .u8) 5 A113 n114 c115 ([a0] ++ y107) :: L) w) ⟨hA.sub _ rfl, hS⟩ ?_
  intro N196501 s196501 o196501 hF N196501_ T196501_ ac w hLab
  obtain ⟨x196461, x196462⟩ := s196501
  replace hF : r03_As_l7 a1 x196461 x196462 = some o196501 := hF
  unfold r03_As_l7 at hF
  try dsimp only at hLab
  obtain ⟨hA, hS⟩ := hLab
  refine wp_seq_k fun K196503 hK196503 => ?_
  refine ws fun K196504 hK196504 => ?_
  refine x_m hA rfl fun ac hA => ?_
  refine x_m hA rfl fun ac hA => ?_
  refine x_len Tryz.underlying39 (hS.rdl 1 ha1 rfl).2.1 hA (fun ac hA => ?_) rfl rfl rfl rfl rfl
  refine x_v hA (r_ltI rfl (hA.ev rfl) (hA.ev rfl)) rfl fun ac hA => ?_
  refine wn (hK196504 _ _ ?_)
  refine c_if hA rfl (fun hb196505 => ?_) fun hb196505 => ?_
  ·replace hF := ift hb196505 hF
   refine wp_skip ?_
   refine hK196503 _ _ ?_
   refine wp_seq_k fun K196506 hK196506 => ?_
   refine wp_block_k fun Kx196522 hKx196522 => ?_
   have hb12 : ∀ (x196529 : Int), r03_As_b12 x196462 x196529 = some o196501 → ∀ (ac : Act) (w : World), FR 199 [] ac [(1, .slice A1 n1 c1), (5, .slice A113 n114 c115), (11, .int .i64 x196529), (12, .int .i64 x196462)] → SH r (own (kI .u8) 5 A113 n114 c115 ([a0] ++ y107) :: L) w → Kx196522 ac w := by
    intro x196529 hF ac w hA hS
    unfold r03_As_b12 at hF
    refine hKx196522 _ _ ?_
    refine hK196506 _ _ ?_
    refine wp_reg ?_
    refine x_m hA rfl fun ac hA => ?_
    obtain ⟨x196530, h196531, hF⟩ := ltt_ hF
    refine x_v (v := .int .i64 x196530) hA (rv_i h196531 (r_add rfl (hA.ev rfl) (hA.ev rfl))) rfl fun ac hA => ?_
    refine x_m hA rfl fun ac hA => ?_
    refine wpList_nil ?_
    cases hF
    exact ⟨_, N196501_ _ rfl, hA.sub _ rfl, hS⟩
   refine ws fun K196532 hK196532 => ?_
   refine x_m hA rfl fun ac hA => ?_
   refine x_m hA rfl fun ac hA => ?_
   obtain ⟨x196533, h196534, hF⟩ := bnd hF
   refine x_ia Tryz.underlying39 sz2 (hS.rdl 1 ha1 rfl) h196534 hA (fun ac hA => ?_) rfl rfl rfl rfl rfl rfl
   obtain ⟨cs, hV, hc196535⟩ := el (hS.rdl 1 ha1 rfl) h196534
   obtain rfl := hV
   refine x_ld Tryz.underlying2 (hc196535 0 _ rfl) hA (fun ac hA => ?_) rfl rfl rfl rfl rfl rfl
   refine x_m hA rfl fun ac hA => ?_
   refine x_v hA (r_ltI rfl (hA.ev rfl) (hA.ev rfl)) rfl fun ac hA => ?_
   refine wn (hK196532 _ _ ?_)
   refine c_if hA rfl (fun hb196536 => ?_) fun hb196536 => ?_
   ·replace hF := ift hb196536 hF
    refine wp_reg ?_
    refine x_m hA rfl fun ac hA => ?_
    refine x_m hA rfl fun ac hA => ?_
    refine x_ia Tryz.underlying39 sz2 (hS.rdl 1 ha1 rfl) h196534 hA (fun ac hA => ?_) rfl rfl rfl rfl rfl rfl
    obtain ⟨cs, hV, hc196537⟩ := el (hS.rdl 1 ha1 rfl) h196534
    obtain rfl := hV
    refine x_ld Tryz.underlying2 (hc196537 0 _ rfl) hA (fun ac hA => ?_) rfl rfl rfl rfl rfl rfl
    refine x_m hA rfl fun ac hA => ?_
    refine wpList_nil ?_
    exact hb12 x196533 hF ac w (hA.sub _ rfl) hS
   replace hF := iff' hb196536 hF
   refine wp_skip ?_
   exact hb12 x196461 hF ac w (hA.sub _ rfl) hS
  replace hF := iff' hb196505 hF
  refine wp_exit ?_
  cases hF
  exact hx196501_7 x196461 (T196501_ _ rfl) ac w (hA.sub _ rfl) hS
 replace hF := iff' hb149239 hF
 refine wp_skip ?_
 replace hS := hS.drop 1
 exact hb1 ([a0] ++ y107) hF A113 n114 c115 ac w (hA.sub _ rfl) hS
theorem F_r03_Ints {r : World} {L : List HP} {w : World} (a0 : (List Int)) (A0 : Option Addr) (n0 : Nat) (c0 : Nat) {y : ((List Int))} (hF : r03_Ints a0 = some y) (ha0 : RdL L (kI .i64) A0 n0 c0 a0) (hS : SH r (L) w) :
  Ret Tryz.prog 27 #[.slice A0 n0 c0] w fun v w' => ∃ (B0 : Option Addr) (m0 : Nat) (d0 : Nat), v = .slice B0 m0 d0 ∧ SH r (own (kI .u8) 5 B0 m0 d0 y :: L) w' := by
 refine enter Tryz.func27 rfl Tryz.ntmps27 [(0, .slice A0 n0 c0)] rfl (by simp) ?_
 intro ac hA Qf hQ hQn
 unfold r03_Ints at hF
 refine ws fun K101 hK101 => ?_
 refine x_m hA rfl fun ac hA => ?_
 refine wn (hK101 _ _ ?_)
 refine ws fun K102 hK102 => ?_
 refine x_m hA rfl fun ac hA => ?_
 obtain ⟨y103, h104, hF⟩ := bnd hF
 refine x_call en57 hA (F_r03_As (L := L) 0 a0 A0 n0 c0 h104 (RdL.sfx 0 rfl ha0) hS) (fun v ac w hR hA => ?_) rfl rfl rfl rfl rfl
 obtain ⟨B105, m106, d107, rfl, hS⟩ := hR
 refine x_m hA rfl fun ac hA => ?_
 refine wn (hK102 _ _ ?_)
 refine wp_seq_k fun K108 hK108 => ?_
 refine ws fun K456 hK456 => ?_
 refine x_m hA rfl fun ac hA => ?_
 refine wn (hK456 _ _ ?_)
 refine wp_block_k fun Kx457 hKx457 => ?_
 have hb1 : ∀ (l628 : (List Int)), r03_Ints_b1 l628 = some y → ∀ (A629 : Option Addr) (n630 : Nat) (c631 : Nat) (ac : Act) (w : World), FR 22 [] ac [(3, .slice A629 n630 c631)] → SH r (own (kI .u8) 5 A629 n630 c631 l628 :: L) w → Kx457 ac w := by
  intro l628 hF A629 n630 c631 ac w hA hS
  unfold r03_Ints_b1 at hF
  refine hKx457 _ _ ?_
  refine hK108 _ _ ?_
  refine ws fun K632 hK632 => ?_
  refine x_m hA rfl fun ac hA => ?_
  refine x_m hA rfl fun ac hA => ?_
  refine wn (hK632 _ _ ?_)
  refine wp_ret ?_
  cases hF
  refine hQ _ _ ?_
  refine lv Tryz.results27 hA rfl ?_
  exact ⟨A629, n630, c631, rfl, hS⟩
 obtain ⟨t751, hl751, hF⟩ := bnd hF
 have hx751_0 : ∀ (l748 : (List Int)), (l748) = t751 → ∀ (A749 : Option Addr) (n750 : Nat) (c751 : Nat) (ac : Act) (w : World), FR 22 [] ac [(3, .slice A749 n750 c751)] → SH r (own (kI .u8) 5 A749 n750 c751 l748 :: L) w → Kx457 ac w := by
  intro l748 ht A749 n750 c751 ac w hA hS
  subst ht
  replace hF : r03_Ints_x1_0 l748 = some y := hF
  unfold r03_Ints_x1_0 at hF
  exact hb1 l748 hF A749 n750 c751 ac w (hA.sub _ rfl) hS
 refine wp_loop_fn hl751 (fun s ac w => ∃ (A689 : Option Addr) (n690 : Nat) (c691 : Nat), FR 22 [] ac [(0, .slice A0 n0 c0), (3, .slice A689 n690 c691), (4, .int .u8 s.2)] ∧ SH r (own (kI .u8) 5 A689 n690 c691 s.1 :: L) w) ⟨B105, m106, d107, hA.sub _ rfl, hS⟩ ?_
 intro N751 s751 o751 hF N751_ T751_ ac w hLab
 obtain ⟨l688, x692⟩ := s751
 replace hF : r03_Ints_l1 a0 l688 x692 = some o751 := hF
 unfold r03_Ints_l1 at hF
 try dsimp only at hLab
 obtain ⟨A689, n690, c691, hA, hS⟩ := hLab
 refine wp_seq_k fun K753 hK753 => ?_
 refine ws fun K754 hK754 => ?_
 refine x_m hA rfl fun ac hA => ?_
 refine x_v hA (r_ltI rfl (hA.ev rfl) (hA.ev rfl)) rfl fun ac hA => ?_
 refine wn (hK754 _ _ ?_)
 refine c_if hA rfl (fun hb755 => ?_) fun hb755 => ?_
 ·replace hF := ift hb755 hF
  refine wp_skip ?_
  refine hK753 _ _ ?_
  refine wp_seq_k fun K756 hK756 => ?_
  refine wp_block_k fun Kx779 hKx779 => ?_
  have hb2 : ∀ (l788 : (List Int)), r03_Ints_b2 x692 l788 = some o751 → ∀ (A789 : Option Addr) (n790 : Nat) (c791 : Nat) (ac : Act) (w : World), FR 22 [] ac [(0, .slice A0 n0 c0), (3, .slice A789 n790 c791), (4, .int .u8 x692)] → SH r (own (kI .u8) 5 A789 n790 c791 l788 :: L) w → Kx779 ac w := by
   intro l788 hF A789 n790 c791 ac w hA hS
   unfold r03_Ints_b2 at hF
   refine hKx779 _ _ ?_
   refine hK756 _ _ ?_
   refine wp_reg ?_
   refine x_m hA rfl fun ac hA => ?_
   obtain ⟨x792, h793, hF⟩ := ltt_ hF
   refine x_v (v := .int .u8 x792) hA (rv_i h793 (r_add rfl (hA.ev rfl) (hA.ev rfl))) rfl fun ac hA => ?_
   refine x_m hA rfl fun ac hA => ?_
   refine wpList_nil ?_
   cases hF
   exact ⟨_, N751_ _ rfl, A789, n790, c791, hA.sub _ rfl, hS⟩
  refine ws fun K794 hK794 => ?_
  refine x_m hA rfl fun ac hA => ?_
  refine x_m hA rfl fun ac hA => ?_
  obtain ⟨y795, h796, hF⟩ := bnd hF
  refine x_call en57 hA (F_r03_As (L := own (kI .u8) 5 A689 n690 c691 l688 :: L) x692 a0 A0 n0 c0 h796 (RdL.sfx 1 rfl ha0) hS) (fun v ac w hR hA => ?_) rfl rfl rfl rfl rfl
  obtain ⟨B797, m798, d799, rfl, hS⟩ := hR
  refine x_m hA rfl fun ac hA => ?_
  refine wn (hK794 _ _ ?_)
  refine ws fun K800 hK800 => ?_
  refine x_m hA rfl fun ac hA => ?_
  refine x_len Tryz.underlying22 (hS.rd 0 rfl).2.1 hA (fun ac hA => ?_) rfl rfl rfl rfl rfl
  refine x_m hA rfl fun ac hA => ?_
  refine x_len Tryz.underlying22 (hS.rd 1 rfl).2.1 hA (fun ac hA => ?_) rfl rfl rfl rfl rfl
  refine x_v hA (r_ltI rfl (hA.ev rfl) (hA.ev rfl)) rfl fun ac hA => ?_
  refine wn (hK800 _ _ ?_)
  refine c_if hA rfl (fun hb801 => ?_) fun hb801 => ?_
  ·replace hF := ift hb801 hF
   refine wp_reg ?_
   refine x_m hA rfl fun ac hA => ?_
   refine x_m hA rfl fun ac hA => ?_
   refine wpList_nil ?_
   replace hS := hS.drop 1
   exact hb2 y795 hF B797 m798 d799 ac w (hA.sub _ rfl) hS
  replace hF := iff' hb801 hF
  refine wp_skip ?_
  replace hS := hS.drop 0
  exact hb2 l688 hF A689 n690 c691 ac w (hA.sub _ rfl) hS
 replace hF := iff' hb755 hF
 refine wp_exit ?_
 cases hF
 exact hx751_0 l688 (T751_ _ rfl) A689 n690 c691 ac w (hA.sub _ rfl) hS
end Go.Proofs.YthokgnonmcgkcaaGreatDoor.M
namespace Go.Proofs.YthokgnonmcgkcaaGreatDoor.M
open Go Go.RowKit Go.Proofs.YthokgnonmcgkcaaGreatDoor.E
set_option linter.unusedVariables false
set_option linter.unusedSimpArgs false
noncomputable def column_Uint_b1 (l318 : (List Int)) (x322 : Int) : Option ((List Int)) :=
  ltt (IntKind.u8.wrap x322) fun x324 => (chk (l318.length + [x324].length ≤ 140737488355328 / 1) (some (l318 ++ [x324])))
noncomputable def column_Uint_x1_0 (l378 : (List Int)) (x382 : Int) : Option ((List Int)) :=
  column_Uint_b1 l378 x382
noncomputable def column_Uint_l1 (l352 : (List Int)) (x356 : Int) : Option (((List Int) × Int) ⊕ (((List Int) × Int))) :=
  if (decide (128 ≤ x356)) = true then (ltt (IntKind.u8.wrap x356) fun x389 => (ltt (ior .u8 x389 128) fun x391 => (chk (l352.length + [x391].length ≤ 140737488355328 / 1) (ltt (ishr .u64 x356 7) fun x398 => (some (.inl (l352 ++ [x391], x398))))))) else (some (.inr (l352, x356)))
noncomputable def column_Uint (a0 : (List Int)) (a1 : Int) : Option ((List Int)) :=
  (loop (fun s => column_Uint_l1 s.1 s.2) (a0, a1)).bind fun t => column_Uint_x1_0 t.1 t.2
noncomputable def column_Int (a0 : (List Int)) (a1 : Int) : Option ((List Int)) :=
  ltt (ishl .i64 a1 1) fun x103 => (ltt (IntKind.u64.wrap x103) fun x105 => (ltt (ishr .i64 a1 63) fun x107 => (ltt (IntKind.u64.wrap x107) fun x109 => (ltt (ixor .u64 x105 x109) fun x111 => ((column_Uint a0 x111).bind fun y113 => (some y113))))))
noncomputable def column_Text (a0 : (List Int)) (a1 : (List UInt8)) : Option ((List Int)) :=
  ltt (IntKind.u64.wrap (a1.length : Int)) fun x103 => ((column_Uint a0 x103).bind fun y105 => (chk (y105.length + a1.length ≤ 140737488355328 / 1) (some (y105 ++ stb a1))))
noncomputable def slices_Min_int64_int64_b1 (x232 : Int) : Option (Int) :=
  some x232
noncomputable def slices_Min_int64_int64_x1_0 (x260 : Int) : Option (Int) :=
  slices_Min_int64_int64_b1 x260
noncomputable def slices_Min_int64_int64_l1 (a0 : (List Int)) (x246 : Int) (x247 : Int) : Option ((Int × Int) ⊕ ((Int))) :=
  if (decide (x247 < (a0.length : Int))) = true then ((at_ a0 x247).bind fun x267 => (ltt (IntKind.i64.wrap (x247 + 1)) fun x270 => (some (.inl (if x267 < x246 then x267 else x246, x270))))) else (some (.inr (x246)))
noncomputable def slices_Min_int64_int64 (a0 : (List Int)) : Option (Int) :=
  if (decide ((a0.length : Int) < 1)) = true then (none) else ((at_ a0 0).bind fun x108 => ((loop (fun s => slices_Min_int64_int64_l1 a0 s.1 s.2) (x108, 1)).bind fun t => slices_Min_int64_int64_x1_0 t))
noncomputable def bits_Len64_j3 (x128 : Int) (x129 : Int) : Option (Int) :=
  ltt (IntKind.u8.wrap x128) fun x131 => ((at_ ([0, 1, 2, 2, 3, 3, 3, 3, 4, 4, 4, 4, 4, 4, 4, 4, 5, 5, 5, 5, 5, 5, 5, 5, 5, 5, 5, 5, 5, 5, 5, 5, 6, 6, 6, 6, 6, 6, 6, 6, 6, 6, 6, 6, 6, 6, 6, 6, 6, 6, 6, 6, 6, 6, 6, 6, 6, 6, 6, 6, 6, 6, 6, 6, 7, 7, 7, 7, 7, 7, 7, 7, 7, 7, 7, 7, 7, 7, 7, 7, 7, 7, 7, 7, 7, 7, 7, 7, 7, 7, 7, 7, 7, 7, 7, 7, 7, 7, 7, 7, 7, 7, 7, 7, 7, 7, 7, 7, 7, 7, 7, 7, 7, 7, 7, 7, 7, 7, 7, 7, 7, 7, 7, 7, 7, 7, 7, 7, 8, 8, 8, 8, 8, 8, 8, 8, 8, 8, 8, 8, 8, 8, 8, 8, 8, 8, 8, 8, 8, 8, 8, 8, 8, 8, 8, 8, 8, 8, 8, 8, 8, 8, 8, 8, 8, 8, 8, 8, 8, 8, 8, 8, 8, 8, 8, 8, 8, 8, 8, 8, 8, 8, 8, 8, 8, 8, 8, 8, 8, 8, 8, 8, 8, 8, 8, 8, 8, 8, 8, 8, 8, 8, 8, 8, 8, 8, 8, 8, 8, 8, 8, 8, 8, 8, 8, 8, 8, 8, 8, 8, 8, 8, 8, 8, 8, 8, 8, 8, 8, 8, 8, 8, 8, 8, 8, 8, 8, 8, 8, 8, 8, 8, 8, 8, 8, 8, 8, 8, 8, 8, 8, 8, 8, 8, 8, 8] : List UInt8) x131).bind fun x133 => (ltt (IntKind.i64.wrap (x133.toNat : Int)) fun x135 => (ltt (IntKind.i64.wrap (x129 + x135)) fun x137 => (some x137))))
noncomputable def bits_Len64_j2 (x118 : Int) (x119 : Int) : Option (Int) :=
  if (decide (256 ≤ x118)) = true then (ltt (ishr .u64 x118 8) fun x142 => (ltt (IntKind.i64.wrap (x119 + 8)) fun x144 => (bits_Len64_j3 x142 x144))) else (bits_Len64_j3 x118 x119)
noncomputable def bits_Len64_j1 (x108 : Int) (x109 : Int) : Option (Int) :=
  if (decide (65536 ≤ x108)) = true then (ltt (ishr .u64 x108 16) fun x149 => (ltt (IntKind.i64.wrap (x109 + 16)) fun x151 => (bits_Len64_j2 x149 x151))) else (bits_Len64_j2 x108 x109)
noncomputable def bits_Len64 (a0 : Int) : Option (Int) :=
  if (decide (4294967296 ≤ a0)) = true then (ltt (ishr .u64 a0 32) fun x156 => (bits_Len64_j1 x156 32)) else (bits_Len64_j1 a0 0)
noncomputable def column_pack_b2 (y296 : ((List Int))) (x301 : Int) (l8646 : (List Int)) : Option ((List Int)) :=
  chk ((y296 ++ [x301]).length + l8646.length ≤ 140737488355328 / 1) (some ((y296 ++ [x301]) ++ l8646))
noncomputable def column_pack_x1_2 (y296 : ((List Int))) (x301 : Int) (l10485 : (List Int)) : Option ((List Int)) :=
  column_pack_b2 y296 x301 l10485
noncomputable def column_pack_b3 (x9533 : Int) (x11317 : Int) (l11318 : (List Int)) : Option ((Int × (List Int) × Int) ⊕ (((List Int)))) :=
  ltt (IntKind.i64.wrap (x9533 + 1)) fun x11319 => (some (.inl (x11317, l11318, x11319)))
noncomputable def column_pack_x2_4 (x9533 : Int) (x11397 : Int) (l11398 : (List Int)) : Option ((Int × (List Int) × Int) ⊕ (((List Int)))) :=
  column_pack_b3 x9533 x11397 l11398
noncomputable def column_pack_l2 (y107 : (Int)) (x294 : Int) (x11199 : Int) (x11357 : Int) (l11358 : (List Int)) (x11359 : Int) : Option ((Int × (List Int) × Int) ⊕ ((Int × (List Int)))) :=
  if (decide (x11359 < x294)) = true then (ltt (IntKind.i64.wrap (x11357.tdiv 8)) fun x11407 => ((at_ l11358 x11407).bind fun x11409 => (ltt (IntKind.i64.wrap (x11199 - y107)) fun x11412 => (ltt (IntKind.u64.wrap x11412) fun x11414 => (chk (0 ≤ x11359) (ltt (ishr .u64 x11414 x11359) fun x11417 => (ltt (iand .u64 x11417 1) fun x11419 => (ltt (IntKind.u8.wrap x11419) fun x11421 => (ltt (x11357.tmod 8) fun x11423 => (chk (0 ≤ x11423) (ltt (ishl .u8 x11421 x11423) fun x11426 => (ltt (ior .u8 x11409 x11426) fun x11428 => (ltt (IntKind.i64.wrap (x11357 + 1)) fun x11430 => (ltt (IntKind.i64.wrap (x11359 + 1)) fun x11432 => (some (.inl (x11430, l11358.set x11407.toNat x11428, x11432))))))))))))))))) else (some (.inr (x11357, l11358)))
noncomputable def column_pack_l1 (a1 : (List Int)) (y107 : (Int)) (x294 : Int) (x9531 : Int) (l9532 : (List Int)) (x9533 : Int) : Option ((Int × (List Int) × Int) ⊕ (((List Int)))) :=
  if (decide (x9533 < (a1.length : Int))) = true then ((at_ a1 x9533).bind fun x11199 => ((loop (fun s => column_pack_l2 y107 x294 x11199 s.1 s.2.1 s.2.2) (x9531, l9532, 0)).bind fun t => column_pack_x2_4 x9533 t.1 t.2)) else (some (.inr (l9532)))
noncomputable def column_pack_b1 (a0 : (List Int)) (a1 : (List Int)) (y107 : (Int)) (x294 : Int) : Option ((List Int)) :=
  (column_Int a0 y107).bind fun y296 => (ltt (IntKind.u8.wrap x294) fun x301 => (chk (y296.length + [x301].length ≤ 140737488355328 / 1) (ltt (IntKind.i64.wrap ((a1.length : Int) * x294)) fun x310 => (ltt (IntKind.i64.wrap (x310 + 7)) fun x312 => (ltt (IntKind.i64.wrap (x312.tdiv 8)) fun x314 => (chk (0 ≤ x314 ∧ (1 : Int) * x314 ≤ 140737488355328) ((loop (fun s => column_pack_l1 a1 y107 x294 s.1 s.2.1 s.2.2) (0, List.replicate x314.toNat (0 : Int), 0)).bind fun t => column_pack_x1_2 y296 x301 t)))))))
noncomputable def column_pack_x3_0 (a0 : (List Int)) (a1 : (List Int)) (y107 : (Int)) (x11474 : Int) : Option ((List Int)) :=
  column_pack_b1 a0 a1 y107 x11474
noncomputable def column_pack_l3 (a1 : (List Int)) (y107 : (Int)) (x11453 : Int) (x11454 : Int) : Option ((Int × Int) ⊕ ((Int))) :=
  if (decide (x11454 < (a1.length : Int))) = true then ((at_ a1 x11454).bind fun x11482 => (ltt (IntKind.i64.wrap (x11482 - y107)) fun x11485 => (ltt (IntKind.u64.wrap x11485) fun x11487 => ((bits_Len64 x11487).bind fun y11489 => (ltt (IntKind.i64.wrap (x11454 + 1)) fun x11491 => (some (.inl (if x11453 < y11489 then y11489 else x11453, x11491)))))))) else (some (.inr (x11453)))
noncomputable def column_pack (a0 : (List Int)) (a1 : (List Int)) : Option ((List Int)) :=
  if ((a1.length : Int) == 0) = true then (some a0) else ((slices_Min_int64_int64 a1).bind fun y107 => ((loop (fun s => column_pack_l3 a1 y107 s.1 s.2) (0, 0)).bind fun t => column_pack_x3_0 a0 a1 y107 t))
noncomputable def column_As_b1 (l7786 : (List Int)) : Option ((List Int)) :=
  some l7786
noncomputable def column_As_b2 (l7863 : (List Int)) : Option ((List Int)) :=
  column_As_b1 l7863
noncomputable def column_As_x1_1 (l7914 : (List Int)) : Option ((List Int)) :=
  column_As_b2 l7914
noncomputable def column_As_l1 (a1 : (List Int)) (l7888 : (List Int)) (x7892 : Int) : Option (((List Int) × Int) ⊕ (((List Int)))) :=
  if (decide (x7892 < (a1.length : Int))) = true then ((at_ a1 x7892).bind fun x7925 => ((column_Int l7888 x7925).bind fun y7928 => (ltt (IntKind.i64.wrap (x7892 + 1)) fun x7933 => (some (.inl (y7928, x7933)))))) else (some (.inr (l7888)))
noncomputable def column_As_b3 (l8020 : (List Int)) : Option ((List Int)) :=
  column_As_b1 l8020
noncomputable def column_As_x2_3 (l8080 : (List Int)) : Option ((List Int)) :=
  column_As_b3 l8080
noncomputable def column_As_l2 (a1 : (List Int)) (l8049 : (List Int)) (x8053 : Int) (x8054 : Int) : Option (((List Int) × Int × Int) ⊕ (((List Int)))) :=
  if (decide (x8054 < (a1.length : Int))) = true then ((at_ a1 x8054).bind fun x8091 => (ltt (IntKind.i64.wrap (x8091 - x8053)) fun x8095 => ((column_Int l8049 x8095).bind fun y8097 => (ltt (IntKind.i64.wrap (x8054 + 1)) fun x8102 => (some (.inl (y8097, x8091, x8102))))))) else (some (.inr (l8049)))
noncomputable def column_As_b4 (l9220 : (List Int)) : Option ((List Int)) :=
  column_As_b1 l9220
noncomputable def column_As_x3_5 (l9967 : (List Int)) : Option ((List Int)) :=
  column_As_b4 l9967
noncomputable def column_As_b5 (a1 : (List Int)) (l9593 : (List Int)) (x9597 : Int) (x10231 : Int) : Option (((List Int) × Int) ⊕ (((List Int)))) :=
  (at_ a1 x9597).bind fun x10233 => ((column_Int l9593 x10233).bind fun y10236 => (ltt (IntKind.i64.wrap (x10231 - 1)) fun x10241 => (ltt (IntKind.u64.wrap x10241) fun x10243 => ((column_Uint y10236 x10243).bind fun y10245 => (ltt (IntKind.i64.wrap (x9597 + x10231)) fun x10250 => (some (.inl (y10245, x10250))))))))
noncomputable def column_As_x4_7 (a1 : (List Int)) (l9593 : (List Int)) (x9597 : Int) (x10307 : Int) : Option (((List Int) × Int) ⊕ (((List Int)))) :=
  column_As_b5 a1 l9593 x9597 x10307
noncomputable def column_As_j1 (x10279 : Int) (b10320 : Bool) : Option ((Int) ⊕ ((Int))) :=
  if b10320 = true then (ltt (IntKind.i64.wrap (x10279 + 1)) fun x10323 => (some (.inl (x10323)))) else (some (.inr (x10279)))
noncomputable def column_As_l4 (a1 : (List Int)) (x9597 : Int) (x10279 : Int) : Option ((Int) ⊕ ((Int))) :=
  ltt (IntKind.i64.wrap (x9597 + x10279)) fun x10325 => (if (decide (x10325 < (a1.length : Int))) = true then ((at_ a1 x10325).bind fun x10328 => ((at_ a1 x9597).bind fun x10331 => (column_As_j1 x10279 (x10328 == x10331)))) else (column_As_j1 x10279 false))
noncomputable def column_As_l3 (a1 : (List Int)) (l9593 : (List Int)) (x9597 : Int) : Option (((List Int) × Int) ⊕ (((List Int)))) :=
  if (decide (x9597 < (a1.length : Int))) = true then ((loop (fun s => column_As_l4 a1 x9597 s) (1)).bind fun t => column_As_x4_7 a1 l9593 x9597 t) else (some (.inr (l9593)))
noncomputable def column_As (a0 : Int) (a1 : (List Int)) : Option ((List Int)) :=
  ltt (IntKind.u64.wrap (a1.length : Int)) fun x104 => ((column_Uint [a0] x104).bind fun y106 => (if (a0 == 0) = true then ((loop (fun s => column_As_l1 a1 s.1 s.2) (y106, 0)).bind fun t => column_As_x1_1 t) else (if (a0 == 1) = true then ((loop (fun s => column_As_l2 a1 s.1 s.2.1 s.2.2) (y106, 0, 0)).bind fun t => column_As_x2_3 t) else (if (a0 == 2) = true then ((loop (fun s => column_As_l3 a1 s.1 s.2) (y106, 0)).bind fun t => column_As_x3_5 t) else (if (a0 == 3) = true then ((column_pack y106 a1).bind fun y10336 => (column_As_b1 y10336)) else (column_As_b1 y106))))))
noncomputable def column_Ints_b1 (l628 : (List Int)) : Option ((List Int)) :=
  some l628
noncomputable def column_Ints_x1_0 (l748 : (List Int)) : Option ((List Int)) :=
  column_Ints_b1 l748
noncomputable def column_Ints_b2 (x692 : Int) (l788 : (List Int)) : Option (((List Int) × Int) ⊕ (((List Int)))) :=
  ltt (IntKind.u8.wrap (x692 + 1)) fun x792 => (some (.inl (l788, x792)))
noncomputable def column_Ints_l1 (a0 : (List Int)) (l688 : (List Int)) (x692 : Int) : Option (((List Int) × Int) ⊕ (((List Int)))) :=
  if (decide (x692 ≤ 3)) = true then ((column_As x692 a0).bind fun y795 => (if (decide ((y795.length : Int) < (l688.length : Int))) = true then (column_Ints_b2 x692 y795) else (column_Ints_b2 x692 l688))) else (some (.inr (l688)))
noncomputable def column_Ints (a0 : (List Int)) : Option ((List Int)) :=
  (column_As 0 a0).bind fun y103 => ((loop (fun s => column_Ints_l1 a0 s.1 s.2) (y103, 1)).bind fun t => column_Ints_x1_0 t)
end Go.Proofs.YthokgnonmcgkcaaGreatDoor.M
