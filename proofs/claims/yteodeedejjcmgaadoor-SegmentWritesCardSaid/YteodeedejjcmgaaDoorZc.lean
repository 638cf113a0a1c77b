/- Texts of the claim, joined: what it uses of Mre, Dce, Mce, Drr, Mrr, Tr, Dcr. -/
import Derived.Test.YteodeedejjcmgaaDoorZb
namespace Go.Proofs.YteodeedejjcmgaaDoor.M
open Go Go.RowKit Go.Proofs.YteodeedejjcmgaaDoor.E
set_option linter.unusedVariables false
set_option maxRecDepth 100000
set_option maxHeartbeats 4000000
set_option linter.unusedSimpArgs false
theorem Fs_r03_Uint (rec_ : Int → Option ((List Int))) (hrec : ∀ {r : World} {L : List HP} {w : World} (a0 : Int) {y : ((List Int))} (hF : rec_ a0 = some y) (hS : SH r (L) w), Ret Tryd.prog 32 #[.int .u64 a0] w fun v w' => ∃ (B0 : Option Addr) (m0 : Nat) (d0 : Nat), v = .slice B0 m0 d0 ∧ SH r (own (kI .u8) 5 B0 m0 d0 y :: L) w') {r : World} {L : List HP} {w : World} (a0 : Int) {y : ((List Int))} (hF : r03_Uint_s rec_ a0 = some y) (hS : SH r (L) w) :
  Ret Tryd.prog 32 #[.int .u64 a0] w fun v w' => ∃ (B0 : Option Addr) (m0 : Nat) (d0 : Nat), v = .slice B0 m0 d0 ∧ SH r (own (kI .u8) 5 B0 m0 d0 y :: L) w' := by
 refine enter Tryd.func32 rfl Tryd.ntmps32 [(0, .int .u64 a0)] rfl (by simp) ?_
 intro ac hA Qf hQ hQn
 unfold r03_Uint_s at hF
 refine ws fun K101 hK101 => ?_
 refine x_m hA rfl fun ac hA => ?_
 refine wn (hK101 _ _ ?_)
 refine wp_seq_k fun K102 hK102 => ?_
 refine ws fun K103 hK103 => ?_
 refine x_m hA rfl fun ac hA => ?_
 refine x_v hA (r_ltI rfl (hA.ev rfl) (hA.ev rfl)) rfl fun ac hA => ?_
 refine wn (hK103 _ _ ?_)
 refine c_if hA rfl (fun hb104 => ?_) fun hb104 => ?_
 ·replace hF := ift hb104 hF
  refine ws fun K105 hK105 => ?_
  refine x_m hA rfl fun ac hA => ?_
  obtain ⟨x106, h107, hF⟩ := ltt_ hF
  refine x_v (v := .int .u8 x106) hA (rv_i h107 (r_convI Tryd.underlying31 Tryd.underlying5 rfl (hA.ev rfl))) rfl fun ac hA => ?_
  refine x_bsl (d := (kI .u8)) (e := 5) (ps := #[(0, .int .u8 x106)]) (cells := [.int .u8 x106]) (xs := [x106]) (fun w => by kernel_rfl) rfl ⟨[.int .u8 x106], _, rfl, rfl, rfl⟩ hA hS (fun g108 ac w hS hA => ?_) rfl rfl rfl rfl rfl rfl
  refine x_m hA rfl fun ac hA => ?_
  refine wn (hK105 _ _ ?_)
  refine wp_ret ?_
  cases hF
  refine hQ _ _ ?_
  refine lv Tryd.results32 hA rfl ?_
  exact ⟨some ⟨g108, 0, none⟩, 1, 1, rfl, hS⟩
 replace hF := iff' hb104 hF
 refine wp_skip ?_
 refine hK102 _ _ ?_
 refine ws fun K109 hK109 => ?_
 refine x_m hA rfl fun ac hA => ?_
 refine x_v hA (r_rem rfl (hA.ev rfl) (hA.ev rfl) (by decide)) rfl fun ac hA => ?_
 obtain ⟨x110, h111, hF⟩ := ltt_ hF
 refine x_v (v := .int .u64 x110) hA (rv_i h111 (r_add rfl (hA.ev rfl) (hA.ev rfl))) rfl fun ac hA => ?_
 obtain ⟨x112, h113, hF⟩ := ltt_ hF
 refine x_v (v := .int .u8 x112) hA (rv_i h113 (r_convI Tryd.underlying31 Tryd.underlying5 rfl (hA.ev rfl))) rfl fun ac hA => ?_
 refine x_bsl (d := (kI .u8)) (e := 5) (ps := #[(0, .int .u8 x112)]) (cells := [.int .u8 x112]) (xs := [x112]) (fun w => by kernel_rfl) rfl ⟨[.int .u8 x112], _, rfl, rfl, rfl⟩ hA hS (fun g114 ac w hS hA => ?_) rfl rfl rfl rfl rfl rfl
 refine x_m hA rfl fun ac hA => ?_
 refine wn (hK109 _ _ ?_)
 refine ws fun K115 hK115 => ?_
 refine x_m hA rfl fun ac hA => ?_
 refine x_m hA rfl fun ac hA => ?_
 obtain ⟨x116, h117, hF⟩ := ltt_ hF
 refine x_v (v := .int .u64 x116) hA (rv_i h117 (r_quo rfl (hA.ev rfl) (hA.ev rfl) (by decide))) rfl fun ac hA => ?_
 obtain ⟨y118, h119, hF⟩ := bnd hF
 refine x_call en32 hA (hrec (L := own (kI .u8) 5 (some ⟨g114, 0, none⟩) 1 1 [x112] :: L) x116 h119 hS) (fun v ac w hR hA => ?_) rfl rfl rfl rfl rfl
 obtain ⟨B120, m121, d122, rfl, hS⟩ := hR
 obtain ⟨h123, hF⟩ := chk_some hF
 have hr := hS.rd 0 rfl
 refine x_app 1 inf5 Tryd.underlying24 hA hS hr.1 hr.2.1 h123 rfl (fun A124 n125 c126 ac w hS hA => ?_) rfl rfl rfl rfl rfl rfl rfl rfl rfl
 refine x_m hA rfl fun ac hA => ?_
 refine wn (hK115 _ _ ?_)
 refine wp_ret ?_
 replace hS := hS.drop 1
 cases hF
 refine hQ _ _ ?_
 refine lv Tryd.results32 hA rfl ?_
 exact ⟨A124, n125, c126, rfl, hS⟩
theorem Fk_r03_Uint (k : Nat) : ∀ {r : World} {L : List HP} {w : World} (a0 : Int) {y : ((List Int))} (hF : r03_Uint_k k a0 = some y) (hS : SH r (L) w), Ret Tryd.prog 32 #[.int .u64 a0] w fun v w' => ∃ (B0 : Option Addr) (m0 : Nat) (d0 : Nat), v = .slice B0 m0 d0 ∧ SH r (own (kI .u8) 5 B0 m0 d0 y :: L) w' := by
 induction k with
 | zero => intros; rename_i hF _; cases hF
 | succ k ih => exact Fs_r03_Uint (r03_Uint_k k) ih
theorem F_r03_Uint {r : World} {L : List HP} {w : World} (a0 : Int) {y : ((List Int))} (hF : r03_Uint a0 = some y) (hS : SH r (L) w) :
  Ret Tryd.prog 32 #[.int .u64 a0] w fun v w' => ∃ (B0 : Option Addr) (m0 : Nat) (d0 : Nat), v = .slice B0 m0 d0 ∧ SH r (own (kI .u8) 5 B0 m0 d0 y :: L) w' := Fk_r03_Uint 12 a0 hF hS
theorem F_r03_Int {r : World} {L : List HP} {w : World} (a0 : Int) {y : ((List Int))} (hF : r03_Int a0 = some y) (hS : SH r (L) w) :
  Ret Tryd.prog 33 #[.int .i64 a0] w fun v w' => ∃ (B0 : Option Addr) (m0 : Nat) (d0 : Nat), v = .slice B0 m0 d0 ∧ SH r (own (kI .u8) 5 B0 m0 d0 y :: L) w' := by
 refine enter Tryd.func33 rfl Tryd.ntmps33 [(0, .int .i64 a0)] rfl (by simp) ?_
 intro ac hA Qf hQ hQn
 unfold r03_Int at hF
 refine ws fun K101 hK101 => ?_
 refine x_m hA rfl fun ac hA => ?_
 refine wn (hK101 _ _ ?_)
 refine wp_seq_k fun K102 hK102 => ?_
 refine ws fun K103 hK103 => ?_
 refine x_m hA rfl fun ac hA => ?_
 refine x_v hA (r_ltI rfl (hA.ev rfl) (hA.ev rfl)) rfl fun ac hA => ?_
 refine wn (hK103 _ _ ?_)
 refine c_if hA rfl (fun hb104 => ?_) fun hb104 => ?_
 ·replace hF := ift hb104 hF
  refine ws fun K105 hK105 => ?_
  refine x_m hA rfl fun ac hA => ?_
  obtain ⟨x106, h107, hF⟩ := ltt_ hF
  refine x_v (v := .int .i64 x106) hA (rv_i h107 (r_add rfl (hA.ev rfl) (hA.ev rfl))) rfl fun ac hA => ?_
  refine x_v hA (r_neg rfl (hA.ev rfl)) rfl fun ac hA => ?_
  obtain ⟨x108, h109, hF⟩ := ltt_ hF
  refine x_v (v := .int .u64 x108) hA (rv_i h109 (r_convI Tryd.underlying2 Tryd.underlying31 rfl (hA.ev rfl))) rfl fun ac hA => ?_
  obtain ⟨x110, h111, hF⟩ := ltt_ hF
  refine x_v (v := .int .u64 x110) hA (rv_i h111 (r_mul rfl (hA.ev rfl) (hA.ev rfl))) rfl fun ac hA => ?_
  obtain ⟨x112, h113, hF⟩ := ltt_ hF
  refine x_v (v := .int .u64 x112) hA (rv_i h113 (r_add rfl (hA.ev rfl) (hA.ev rfl))) rfl fun ac hA => ?_
  obtain ⟨y114, h115, hF⟩ := bnd hF
  refine x_call en32 hA (F_r03_Uint (L := L) x112 h115 hS) (fun v ac w hR hA => ?_) rfl rfl rfl rfl rfl
  obtain ⟨B116, m117, d118, rfl, hS⟩ := hR
  refine x_m hA rfl fun ac hA => ?_
  refine wn (hK105 _ _ ?_)
  refine wp_ret ?_
  cases hF
  refine hQ _ _ ?_
  refine lv Tryd.results33 hA rfl ?_
  exact ⟨B116, m117, d118, rfl, hS⟩
 replace hF := iff' hb104 hF
 refine wp_skip ?_
 refine hK102 _ _ ?_
 refine ws fun K119 hK119 => ?_
 refine x_m hA rfl fun ac hA => ?_
 obtain ⟨x120, h121, hF⟩ := ltt_ hF
 refine x_v (v := .int .u64 x120) hA (rv_i h121 (r_convI Tryd.underlying2 Tryd.underlying31 rfl (hA.ev rfl))) rfl fun ac hA => ?_
 obtain ⟨x122, h123, hF⟩ := ltt_ hF
 refine x_v (v := .int .u64 x122) hA (rv_i h123 (r_mul rfl (hA.ev rfl) (hA.ev rfl))) rfl fun ac hA => ?_
 obtain ⟨y124, h125, hF⟩ := bnd hF
 refine x_call en32 hA (F_r03_Uint (L := L) x122 h125 hS) (fun v ac w hR hA => ?_) rfl rfl rfl rfl rfl
 obtain ⟨B126, m127, d128, rfl, hS⟩ := hR
 refine x_m hA rfl fun ac hA => ?_
 refine wn (hK119 _ _ ?_)
 refine wp_ret ?_
 cases hF
 refine hQ _ _ ?_
 refine lv Tryd.results33 hA rfl ?_
 exact ⟨B126, m127, d128, rfl, hS⟩
theorem F_r03_Text {r : World} {L : List HP} {w : World} (a0 : (List UInt8)) {y : ((List Int))} (hF : r03_Text a0 = some y) (hS : SH r (L) w) :
  Ret Tryd.prog 34 #[str a0] w fun v w' => ∃ (B0 : Option Addr) (m0 : Nat) (d0 : Nat), v = .slice B0 m0 d0 ∧ SH r (own (kI .u8) 5 B0 m0 d0 y :: L) w' := by
 refine enter Tryd.func34 rfl Tryd.ntmps34 [(0, str a0)] rfl (by simp) ?_
 intro ac hA Qf hQ hQn
 unfold r03_Text at hF
 refine ws fun K101 hK101 => ?_
 refine x_m hA rfl fun ac hA => ?_
 refine wn (hK101 _ _ ?_)
 refine ws fun K102 hK102 => ?_
 refine x_m hA rfl fun ac hA => ?_
 refine x_v hA (r_lenS Tryd.underlying9 rfl (hA.ev rfl)) rfl fun ac hA => ?_
 obtain ⟨x103, h104, hF⟩ := ltt_ hF
 refine x_v (v := .int .u64 x103) hA (rv_i h104 (r_convI Tryd.underlying3 Tryd.underlying31 rfl (hA.ev rfl))) rfl fun ac hA => ?_
 obtain ⟨y105, h106, hF⟩ := bnd hF
 refine x_call en32 hA (F_r03_Uint (L := L) x103 h106 hS) (fun v ac w hR hA => ?_) rfl rfl rfl rfl rfl
 obtain ⟨B107, m108, d109, rfl, hS⟩ := hR
 refine x_m hA rfl fun ac hA => ?_
 refine wn (hK102 _ _ ?_)
 refine ws fun K110 hK110 => ?_
 refine x_m hA rfl fun ac hA => ?_
 refine x_m hA rfl fun ac hA => ?_
 obtain ⟨h114, hF⟩ := chk_some hF
 refine x_s2b (e := 5) Tryd.underlying24 Tryd.underlying5 Tryd.underlying9 hA hS h114 (fun A111 n112 c113 ac w hS hA => ?_) rfl rfl rfl rfl rfl
 obtain ⟨h115, hF⟩ := chk_some hF
 have hr := hS.rdm 0 rfl
 refine x_app 1 inf5 Tryd.underlying24 hA hS hr.1 hr.2.1 h115 rfl (fun A116 n117 c118 ac w hS hA => ?_) rfl rfl rfl rfl rfl rfl rfl rfl rfl
 refine x_m hA rfl fun ac hA => ?_
 refine wn (hK110 _ _ ?_)
 refine wp_ret ?_
 replace hS := hS.drop 1
 cases hF
 refine hQ _ _ ?_
 refine lv Tryd.results34 hA rfl ?_
 exact ⟨A116, n117, c118, rfl, hS⟩
theorem F_r03_width {r : World} {L : List HP} {w : World} (a0 : Int) {y : (Int)} (hF : r03_width a0 = some y) (hS : SH r (L) w) :
  Ret Tryd.prog 91 #[.int .u64 a0] w fun v w' => v = .int .i64 y ∧ SH r (L) w' := by
 refine enter Tryd.func91 rfl Tryd.ntmps91 [(0, .int .u64 a0)] rfl (by simp) ?_
 intro ac hA Qf hQ hQn
 unfold r03_width at hF
 refine ws fun K101 hK101 => ?_
 refine x_m hA rfl fun ac hA => ?_
 refine wn (hK101 _ _ ?_)
 refine ws fun K102 hK102 => ?_
 refine x_m hA rfl fun ac hA => ?_
 refine wn (hK102 _ _ ?_)
 refine wp_seq_k fun K103 hK103 => ?_
 refine wp_block_k fun Kx177 hKx177 => ?_
 have hb1 : ∀ (x213 : Int), r03_width_b1 x213 = some y → ∀ (ac : Act) (w : World), FR 11 [] ac [(3, .int .i64 x213)] → SH r (L) w → Kx177 ac w := by
  intro x213 hF ac w hA hS
  unfold r03_width_b1 at hF
  refine hKx177 _ _ ?_
  refine hK103 _ _ ?_
  refine ws fun K214 hK214 => ?_
  refine x_m hA rfl fun ac hA => ?_
  refine x_m hA rfl fun ac hA => ?_
  refine wn (hK214 _ _ ?_)
  refine wp_ret ?_
  cases hF
  refine hQ _ _ ?_
  refine lv Tryd.results91 hA rfl ?_
  exact ⟨rfl, hS⟩
 obtain ⟨t239, hl239, hF⟩ := bnd hF
 have hx239_0 : ∀ (x239 : Int), (x239) = t239 → ∀ (ac : Act) (w : World), FR 11 [] ac [(3, .int .i64 x239)] → SH r (L) w → Kx177 ac w := by
  intro x239 ht ac w hA hS
  subst ht
  replace hF : r03_width_x1_0 x239 = some y := hF
  unfold r03_width_x1_0 at hF
  exact hb1 x239 hF ac w (hA.sub _ rfl) hS
 refine wp_loop_fn hl239 (fun s ac w => FR 11 [] ac [(0, .int .u64 s.1), (3, .int .i64 s.2)] ∧ SH r (L) w) ⟨hA.sub _ rfl, hS⟩ ?_
 intro N239 s239 o239 hF N239_ T239_ ac w hLab
 obtain ⟨x226, x227⟩ := s239
 replace hF : r03_width_l1 x226 x227 = some o239 := hF
 unfold r03_width_l1 at hF
 try dsimp only at hLab
 obtain ⟨hA, hS⟩ := hLab
 refine wp_seq_k fun K241 hK241 => ?_
 refine ws fun K242 hK242 => ?_
 refine x_m hA rfl fun ac hA => ?_
 refine x_v hA (r_gtI rfl (hA.ev rfl) (hA.ev rfl)) rfl fun ac hA => ?_
 refine wn (hK242 _ _ ?_)
 refine c_if hA rfl (fun hb243 => ?_) fun hb243 => ?_
 ·replace hF := ift hb243 hF
  refine wp_skip ?_
  refine hK241 _ _ ?_
  refine wp_block_k fun Kx244 hKx244 => ?_
  refine ws fun K245 hK245 => ?_
  refine x_m hA rfl fun ac hA => ?_
  obtain ⟨x246, h247, hF⟩ := ltt_ hF
  refine x_v (v := .int .i64 x246) hA (rv_i h247 (r_add rfl (hA.ev rfl) (hA.ev rfl))) rfl fun ac hA => ?_
  refine x_m hA rfl fun ac hA => ?_
  refine wn (hK245 _ _ ?_)
  refine wp_reg ?_
  refine x_m hA rfl fun ac hA => ?_
  obtain ⟨x248, h249, hF⟩ := ltt_ hF
  refine x_v (v := .int .u64 x248) hA (rv_i h249 (r_quo rfl (hA.ev rfl) (hA.ev rfl) (by decide))) rfl fun ac hA => ?_
  refine x_m hA rfl fun ac hA => ?_
  refine wpList_nil ?_
  refine hKx244 _ _ ?_
  cases hF
  exact ⟨_, N239_ _ rfl, hA.sub _ rfl, hS⟩
 replace hF := iff' hb243 hF
 refine wp_exit ?_
 cases hF
 exact hx239_0 x227 (T239_ _ rfl) ac w (hA.sub _ rfl) hS
theorem F_r03_As {r : World} {L : List HP} {w : World} (a0 : Int) (a1 : (List Int)) (A1 : Option Addr) (n1 : Nat) (c1 : Nat) {y : ((List Int))} (hF : r03_As a0 a1 = some y) (ha1 : RdL L (kI .i64) A1 n1 c1 a1) (hS : SH r (L) w) :
  Ret Tryd.prog 74 #[.int .u8 a0, .slice A1 n1 c1] w fun v w' => ∃ (B0 : Option Addr) (m0 : Nat) (d0 : Nat), v = .slice B0 m0 d0 ∧ SH r (own (kI .u8) 5 B0 m0 d0 y :: L) w' := by
 refine enter Tryd.func74 rfl Tryd.ntmps74 [(0, .int .u8 a0), (1, .slice A1 n1 c1)] rfl (by simp) ?_
 intro ac hA Qf hQ hQn
 unfold r03_As at hF
 refine ws fun K101 hK101 => ?_
 refine x_m hA rfl fun ac hA => ?_
 refine wn (hK101 _ _ ?_)
 refine ws fun K102 hK102 => ?_
 refine x_m hA rfl fun ac hA => ?_
 refine x_bsl (d := (kI .u8)) (e := 5) (ps := #[(0, .int .u8 a0)]) (cells := [.int .u8 a0]) (xs := [a0]) (fun w => by kernel_rfl) rfl ⟨[.int .u8 a0], _, rfl, rfl, rfl⟩ hA hS (fun g103 ac w hS hA => ?_) rfl rfl rfl rfl rfl rfl
 refine x_m hA rfl fun ac hA => ?_
 refine wn (hK102 _ _ ?_)
 refine ws fun K104 hK104 => ?_
 refine x_m hA rfl fun ac hA => ?_
 refine x_m hA rfl fun ac hA => ?_
 refine x_len Tryd.underlying90 (hS.rdl 1 ha1 rfl).2.1 hA (fun ac hA => ?_) rfl rfl rfl rfl rfl
 obtain ⟨x105, h106, hF⟩ := ltt_ hF
 refine x_v (v := .int .u64 x105) hA (rv_i h106 (r_convI Tryd.underlying3 Tryd.underlying31 rfl (hA.ev rfl))) rfl fun ac hA => ?_
 obtain ⟨y107, h108, hF⟩ := bnd hF
 refine x_call en32 hA (F_r03_Uint (L := own (kI .u8) 5 (some ⟨g103, 0, none⟩) 1 1 [a0] :: L) x105 h108 hS) (fun v ac w hR hA => ?_) rfl rfl rfl rfl rfl
 obtain ⟨B109, m110, d111, rfl, hS⟩ := hR
 obtain ⟨h112, hF⟩ := chk_some hF
 have hr := hS.rd 0 rfl
 refine x_app 1 inf5 Tryd.underlying24 hA hS hr.1 hr.2.1 h112 rfl (fun A113 n114 c115 ac w hS hA => ?_) rfl rfl rfl rfl rfl rfl rfl rfl rfl
 refine x_m hA rfl fun ac hA => ?_
 refine wn (hK104 _ _ ?_)
 refine wp_seq_k fun K116 hK116 => ?_
 refine ws fun K98334 hK98334 => ?_
 refine x_m hA rfl fun ac hA => ?_
 refine wn (hK98334 _ _ ?_)
 refine wp_block_k fun Kx98335 hKx98335 => ?_
 have hb1 : ∀ (l147441 : (List Int)), r03_As_b1 l147441 = some y → ∀ (A147442 : Option Addr) (n147443 : Nat) (c147444 : Nat) (ac : Act) (w : World), FR 199 [] ac [(5, .slice A147442 n147443 c147444)] → SH r (own (kI .u8) 5 A147442 n147443 c147444 l147441 :: L) w → Kx98335 ac w := by
  intro l147441 hF A147442 n147443 c147444 ac w hA hS
  unfold r03_As_b1 at hF
  refine hKx98335 _ _ ?_
  refine hK116 _ _ ?_
  refine ws fun K147445 hK147445 => ?_
  refine x_m hA rfl fun ac hA => ?_
  refine x_m hA rfl fun ac hA => ?_
  refine wn (hK147445 _ _ ?_)
  refine wp_ret ?_
  cases hF
  refine hQ _ _ ?_
  refine lv Tryd.results74 hA rfl ?_
  exact ⟨A147442, n147443, c147444, rfl, hS⟩
 refine ws fun K147446 hK147446 => ?_
 refine x_v hA (r_eqI rfl (hA.ev rfl) (hA.ev rfl)) rfl fun ac hA => ?_
 refine x_m hA rfl fun ac hA => ?_
 refine wn (hK147446 _ _ ?_)
 refine c_if hA rfl (fun hb147447 => ?_) fun hb147447 => ?_
 ·replace hF := ift hb147447 hF
  refine ws fun K147448 hK147448 => ?_
  refine x_m hA rfl fun ac hA => ?_
  refine wn (hK147448 _ _ ?_)
  refine wp_block_k fun Kx147449 hKx147449 => ?_
  have hb2 : ∀ (l147527 : (List Int)), r03_As_b2 l147527 = some y → ∀ (A147528 : Option Addr) (n147529 : Nat) (c147530 : Nat) (ac : Act) (w : World), FR 199 [] ac [(5, .slice A147528 n147529 c147530)] → SH r (own (kI .u8) 5 A147528 n147529 c147530 l147527 :: L) w → Kx147449 ac w := by
   intro l147527 hF A147528 n147529 c147530 ac w hA hS
   unfold r03_As_b2 at hF
   refine hKx147449 _ _ ?_
   exact hb1 l147527 hF A147528 n147529 c147530 ac w (hA.sub _ rfl) hS
  obtain ⟨t147587, hl147587, hF⟩ := bnd hF
  have hx147587_1 : ∀ (l147584 : (List Int)), (l147584) = t147587 → ∀ (A147585 : Option Addr) (n147586 : Nat) (c147587 : Nat) (ac : Act) (w : World), FR 199 [] ac [(5, .slice A147585 n147586 c147587)] → SH r (own (kI .u8) 5 A147585 n147586 c147587 l147584 :: L) w → Kx147449 ac w := by
   intro l147584 ht A147585 n147586 c147587 ac w hA hS
   subst ht
   replace hF : r03_As_x1_1 l147584 = some y := hF
   unfold r03_As_x1_1 at hF
   exact hb2 l147584 hF A147585 n147586 c147587 ac w (hA.sub _ rfl) hS
  replace hS := hS.drop 1
  refine wp_loop_fn hl147587 (fun s ac w => ∃ (A147556 : Option Addr) (n147557 : Nat) (c147558 : Nat), FR 199 [] ac [(1, .slice A1 n1 c1), (5, .slice A147556 n147557 c147558), (6, .int .i64 s.2)] ∧ SH r (own (kI .u8) 5 A147556 n147557 c147558 s.1 :: L) w) ⟨A113, n114, c115, hA.sub _ rfl, hS⟩ ?_
  intro N147587 s147587 o147587 hF N147587_ T147587_ ac w hLab
  obtain ⟨l147555, x147559⟩ := s147587
  replace hF : r03_As_l1 a1 l147555 x147559 = some o147587 := hF
  unfold r03_As_l1 at hF
  try dsimp only at hLab
  obtain ⟨A147556, n147557, c147558, hA, hS⟩ := hLab
  refine wp_seq_k fun K147589 hK147589 => ?_
  refine ws fun K147590 hK147590 => ?_
  refine x_m hA rfl fun ac hA => ?_
  refine x_m hA rfl fun ac hA => ?_
  refine x_len Tryd.underlying90 (hS.rdl 1 ha1 rfl).2.1 hA (fun ac hA => ?_) rfl rfl rfl rfl rfl
  refine x_v hA (r_ltI rfl (hA.ev rfl) (hA.ev rfl)) rfl fun ac hA => ?_
  refine wn (hK147590 _ _ ?_)
  refine c_if hA rfl (fun hb147591 => ?_) fun hb147591 => ?_
  ·replace hF := ift hb147591 hF
   refine wp_skip ?_
   refine hK147589 _ _ ?_
   refine wp_seq_k fun K147592 hK147592 => ?_
   refine wp_block_k fun Kx147593 hKx147593 => ?_
   refine wp_reg ?_
   refine x_m hA rfl fun ac hA => ?_
   refine x_m hA rfl fun ac hA => ?_
   refine x_m hA rfl fun ac hA => ?_
   obtain ⟨x147594, h147595, hF⟩ := bnd hF
   refine x_ia Tryd.underlying90 sz2 (hS.rdl 1 ha1 rfl) h147595 hA (fun ac hA => ?_) rfl rfl rfl rfl rfl rfl
   obtain ⟨cs, hV, hc147596⟩ := el (hS.rdl 1 ha1 rfl) h147595
   obtain rfl := hV
   refine x_ld Tryd.underlying2 (hc147596 0 _ rfl) hA (fun ac hA => ?_) rfl rfl rfl rfl rfl rfl
   obtain ⟨y147597, h147598, hF⟩ := bnd hF
   refine x_call en33 hA (F_r03_Int (L := own (kI .u8) 5 A147556 n147557 c147558 l147555 :: L) x147594 h147598 hS) (fun v ac w hR hA => ?_) rfl rfl rfl rfl rfl
   obtain ⟨B147599, m147600, d147601, rfl, hS⟩ := hR
   obtain ⟨h147602, hF⟩ := chk_some hF
   have hr := hS.rd 0 rfl
   refine x_app 1 inf5 Tryd.underlying24 hA hS hr.1 hr.2.1 h147602 rfl (fun A147603 n147604 c147605 ac w hS hA => ?_) rfl rfl rfl rfl rfl rfl rfl rfl rfl
   refine x_m hA rfl fun ac hA => ?_
   refine wpList_nil ?_
   refine hKx147593 _ _ ?_
   refine hK147592 _ _ ?_
   refine wp_reg ?_
   refine x_m hA rfl fun ac hA => ?_
   obtain ⟨x147606, h147607, hF⟩ := ltt_ hF
   refine x_v (v := .int .i64 x147606) hA (rv_i h147607 (r_add rfl (hA.ev rfl) (hA.ev rfl))) rfl fun ac hA => ?_
   refine x_m hA rfl fun ac hA => ?_
   refine wpList_nil ?_
   replace hS := hS.drop 1
   cases hF
   exact ⟨_, N147587_ _ rfl, A147603, n147604, c147605, hA.sub _ rfl, hS⟩
  replace hF := iff' hb147591 hF
  refine wp_exit ?_
  cases hF
  exact hx147587_1 l147555 (T147587_ _ rfl) A147556 n147557 c147558 ac w (hA.sub _ rfl) hS
 replace hF := iff' hb147447 hF
 refine ws fun K147608 hK147608 => ?_
 refine x_v hA (r_eqI rfl (hA.ev rfl) (hA.ev rfl)) rfl fun ac hA => ?_
 refine x_m hA rfl fun ac hA => ?_
 refine wn (hK147608 _ _ ?_)
 refine c_if hA rfl (fun hb147609 => ?_) fun hb147609 => ?_
 ·replace hF := ift hb147609 hF
  refine ws fun K147610 hK147610 => ?_
  refine x_m hA rfl fun ac hA => ?_
  refine wn (hK147610 _ _ ?_)
  refine wp_block_k fun Kx147611 hKx147611 => ?_
  have hb3 : ∀ (l147749 : (List Int)), r03_As_b3 l147749 = some y → ∀ (A147750 : Option Addr) (n147751 : Nat) (c147752 : Nat) (ac : Act) (w : World), FR 199 [] ac [(5, .slice A147750 n147751 c147752)] → SH r (own (kI .u8) 5 A147750 n147751 c147752 l147749 :: L) w → Kx147611 ac w := by
   intro l147749 hF A147750 n147751 c147752 ac w hA hS
   unfold r03_As_b3 at hF
   refine hKx147611 _ _ ?_
   exact hb1 l147749 hF A147750 n147751 c147752 ac w (hA.sub _ rfl) hS
  obtain ⟨t147849, hl147849, hF⟩ := bnd hF
  have hx147849_3 : ∀ (l147846 : (List Int)), (l147846) = t147849 → ∀ (A147847 : Option Addr) (n147848 : Nat) (c147849 : Nat) (ac : Act) (w : World), FR 199 [] ac [(5, .slice A147847 n147848 c147849)] → SH r (own (kI .u8) 5 A147847 n147848 c147849 l147846 :: L) w → Kx147611 ac w := by
   intro l147846 ht A147847 n147848 c147849 ac w hA hS
   subst ht
   replace hF : r03_As_x2_3 l147846 = some y := hF
   unfold r03_As_x2_3 at hF
   exact hb3 l147846 hF A147847 n147848 c147849 ac w (hA.sub _ rfl) hS
  replace hS := hS.drop 1
  refine wp_loop_fn hl147849 (fun s ac w => ∃ (A147798 : Option Addr) (n147799 : Nat) (c147800 : Nat), FR 199 [] ac [(1, .slice A1 n1 c1), (5, .slice A147798 n147799 c147800), (7, .int .i64 s.2)] ∧ SH r (own (kI .u8) 5 A147798 n147799 c147800 s.1 :: L) w) ⟨A113, n114, c115, hA.sub _ rfl, hS⟩ ?_
  intro N147849 s147849 o147849 hF N147849_ T147849_ ac w hLab
  obtain ⟨l147797, x147801⟩ := s147849
  replace hF : r03_As_l2 a1 l147797 x147801 = some o147849 := hF
  unfold r03_As_l2 at hF
  try dsimp only at hLab
  obtain ⟨A147798, n147799, c147800, hA, hS⟩ := hLab
  refine wp_seq_k fun K147851 hK147851 => ?_
  refine ws fun K147852 hK147852 => ?_
  refine x_m hA rfl fun ac hA => ?_
  refine x_m hA rfl fun ac hA => ?_
  refine x_len Tryd.underlying90 (hS.rdl 1 ha1 rfl).2.1 hA (fun ac hA => ?_) rfl rfl rfl rfl rfl
  refine x_v hA (r_ltI rfl (hA.ev rfl) (hA.ev rfl)) rfl fun ac hA => ?_
  refine wn (hK147852 _ _ ?_)
  refine c_if hA rfl (fun hb147853 => ?_) fun hb147853 => ?_
  ·replace hF := ift hb147853 hF
   refine wp_skip ?_
   refine hK147851 _ _ ?_
   refine wp_seq_k fun K147854 hK147854 => ?_
   refine wp_block_k fun Kx147855 hKx147855 => ?_
   refine ws fun K147856 hK147856 => ?_
   refine x_m hA rfl fun ac hA => ?_
   refine wn (hK147856 _ _ ?_)
   refine wp_seq_k fun K147857 hK147857 => ?_
   have hj1 : ∀ (x147865 : Int), r03_As_j1 a1 l147797 x147801 x147865 = some o147849 → ∀ (ac : Act) (w : World), FR 199 [] ac [(1, .slice A1 n1 c1), (5, .slice A147798 n147799 c147800), (7, .int .i64 x147801), (8, .int .i64 x147865)] → SH r (own (kI .u8) 5 A147798 n147799 c147800 l147797 :: L) w → K147857 ac w := by
    intro x147865 hF ac w hA hS
    unfold r03_As_j1 at hF
    refine hK147857 _ _ ?_
    refine wp_reg ?_
    refine x_m hA rfl fun ac hA => ?_
    refine x_m hA rfl fun ac hA => ?_
    refine x_m hA rfl fun ac hA => ?_
    obtain ⟨x147866, h147867, hF⟩ := bnd hF
    refine x_ia Tryd.underlying90 sz2 (hS.rdl 1 ha1 rfl) h147867 hA (fun ac hA => ?_) rfl rfl rfl rfl rfl rfl
    obtain ⟨cs, hV, hc147868⟩ := el (hS.rdl 1 ha1 rfl) h147867
    obtain rfl := hV
    refine x_ld Tryd.underlying2 (hc147868 0 _ rfl) hA (fun ac hA => ?_) rfl rfl rfl rfl rfl rfl
    refine x_m hA rfl fun ac hA => ?_
    obtain ⟨x147869, h147870, hF⟩ := ltt_ hF
    refine x_v (v := .int .i64 x147869) hA (rv_i h147870 (r_sub rfl (hA.ev rfl) (hA.ev rfl))) rfl fun ac hA => ?_
    obtain ⟨y147871, h147872, hF⟩ := bnd hF
    refine x_call en33 hA (F_r03_Int (L := own (kI .u8) 5 A147798 n147799 c147800 l147797 :: L) x147869 h147872 hS) (fun v ac w hR hA => ?_) rfl rfl rfl rfl rfl
    obtain ⟨B147873, m147874, d147875, rfl, hS⟩ := hR
    obtain ⟨h147876, hF⟩ := chk_some hF
    have hr := hS.rd 0 rfl
    refine x_app 1 inf5 Tryd.underlying24 hA hS hr.1 hr.2.1 h147876 rfl (fun A147877 n147878 c147879 ac w hS hA => ?_) rfl rfl rfl rfl rfl rfl rfl rfl rfl
    refine x_m hA rfl fun ac hA => ?_
    refine wpList_nil ?_
    refine hKx147855 _ _ ?_
    refine hK147854 _ _ ?_
    refine wp_reg ?_
    refine x_m hA rfl fun ac hA => ?_
    obtain ⟨x147880, h147881, hF⟩ := ltt_ hF
    refine x_v (v := .int .i64 x147880) hA (rv_i h147881 (r_add rfl (hA.ev rfl) (hA.ev rfl))) rfl fun ac hA => ?_
    refine x_m hA rfl fun ac hA => ?_
    refine wpList_nil ?_
    replace hS := hS.drop 1
    cases hF
    exact ⟨_, N147849_ _ rfl, A147877, n147878, c147879, hA.sub _ rfl, hS⟩
   refine ws fun K147882 hK147882 => ?_
   refine x_m hA rfl fun ac hA => ?_
   refine x_v hA (r_gtI rfl (hA.ev rfl) (hA.ev rfl)) rfl fun ac hA => ?_
   refine wn (hK147882 _ _ ?_)
   refine c_if hA rfl (fun hb147883 => ?_) fun hb147883 => ?_
   ·replace hF := ift hb147883 hF
    refine wp_reg ?_
    refine x_m hA rfl fun ac hA => ?_
    refine x_m hA rfl fun ac hA => ?_
    obtain ⟨x147884, h147885, hF⟩ := ltt_ hF
    refine x_v (v := .int .i64 x147884) hA (rv_i h147885 (r_sub rfl (hA.ev rfl) (hA.ev rfl))) rfl fun ac hA => ?_
    obtain ⟨x147886, h147887, hF⟩ := bnd hF
    refine x_ia Tryd.underlying90 sz2 (hS.rdl 1 ha1 rfl) h147887 hA (fun ac hA => ?_) rfl rfl rfl rfl rfl rfl
    obtain ⟨cs, hV, hc147888⟩ := el (hS.rdl 1 ha1 rfl) h147887
    obtain rfl := hV
    refine x_ld Tryd.underlying2 (hc147888 0 _ rfl) hA (fun ac hA => ?_) rfl rfl rfl rfl rfl rfl
    refine x_m hA rfl fun ac hA => ?_
    refine wpList_nil ?_
    exact hj1 x147886 hF ac w (hA.sub _ rfl) hS
   replace hF := iff' hb147883 hF
   refine wp_skip ?_
   exact hj1 0 hF ac w (hA.sub _ rfl) hS
  replace hF := iff' hb147853 hF
  refine wp_exit ?_
  cases hF
  exact hx147849_3 l147797 (T147849_ _ rfl) A147798 n147799 c147800 ac w (hA.sub _ rfl) hS
 replace hF := iff' hb147609 hF
 refine ws fun K147889 hK147889 => ?_
 refine x_v hA (r_eqI rfl (hA.ev rfl) (hA.ev rfl)) rfl fun ac hA => ?_
 refine x_m hA rfl fun ac hA => ?_
 refine wn (hK147889 _ _ ?_)
 refine c_if hA rfl (fun hb147890 => ?_) fun hb147890 => ?_
 ·replace hF := ift hb147890 hF
  refine ws fun K147891 hK147891 => ?_
  refine x_m hA rfl fun ac hA => ?_
  refine wn (hK147891 _ _ ?_)
  refine ws fun K147892 hK147892 => ?_
  refine x_m hA rfl fun ac hA => ?_
  refine wn (hK147892 _ _ ?_)
  refine wp_block_k fun Kx147893 hKx147893 => ?_
  have hb4 : ∀ (l148565 : (List Int)), r03_As_b4 l148565 = some y → ∀ (A148566 : Option Addr) (n148567 : Nat) (c148568 : Nat) (ac : Act) (w : World), FR 199 [] ac [(5, .slice A148566 n148567 c148568)] → SH r (own (kI .u8) 5 A148566 n148567 c148568 l148565 :: L) w → Kx147893 ac w := by
   intro l148565 hF A148566 n148567 c148568 ac w hA hS
   unfold r03_As_b4 at hF
   refine hKx147893 _ _ ?_
   exact hb1 l148565 hF A148566 n148567 c148568 ac w (hA.sub _ rfl) hS
  obtain ⟨t149022, hl149022, hF⟩ := bnd hF
  have hx149022_5 : ∀ (l149019 : (List Int)), (l149019) = t149022 → ∀ (A149020 : Option Addr) (n149021 : Nat) (c149022 : Nat) (ac : Act) (w : World), FR 199 [] ac [(5, .slice A149020 n149021 c149022)] → SH r (own (kI .u8) 5 A149020 n149021 c149022 l149019 :: L) w → Kx147893 ac w := by
   intro l149019 ht A149020 n149021 c149022 ac w hA hS
   subst ht
   replace hF : r03_As_x3_5 l149019 = some y := hF
   unfold r03_As_x3_5 at hF
   exact hb4 l149019 hF A149020 n149021 c149022 ac w (hA.sub _ rfl) hS
  replace hS := hS.drop 1
  refine wp_loop_fn hl149022 (fun s ac w => ∃ (A148792 : Option Addr) (n148793 : Nat) (c148794 : Nat), FR 199 [] ac [(1, .slice A1 n1 c1), (5, .slice A148792 n148793 c148794), (9, .int .u64 s.2.1), (10, .int .i64 s.2.2)] ∧ SH r (own (kI .u8) 5 A148792 n148793 c148794 s.1 :: L) w) ⟨A113, n114, c115, hA.sub _ rfl, hS⟩ ?_
  intro N149022 s149022 o149022 hF N149022_ T149022_ ac w hLab
  obtain ⟨l148791, x148795, x148796⟩ := s149022
  replace hF : r03_As_l3 a1 l148791 x148795 x148796 = some o149022 := hF
  unfold r03_As_l3 at hF
  try dsimp only at hLab
  obtain ⟨A148792, n148793, c148794, hA, hS⟩ := hLab
  refine wp_seq_k fun K149024 hK149024 => ?_
  refine ws fun K149025 hK149025 => ?_
  refine x_m hA rfl fun ac hA => ?_
  refine x_m hA rfl fun ac hA => ?_
  refine x_len Tryd.underlying90 (hS.rdl 1 ha1 rfl).2.1 hA (fun ac hA => ?_) rfl rfl rfl rfl rfl
  refine x_v hA (r_ltI rfl (hA.ev rfl) (hA.ev rfl)) rfl fun ac hA => ?_
  refine wn (hK149025 _ _ ?_)
  refine c_if hA rfl (fun hb149026 => ?_) fun hb149026 => ?_
  ·replace hF := ift hb149026 hF
   refine wp_skip ?_
   refine hK149024 _ _ ?_
   refine wp_seq_k fun K149027 hK149027 => ?_
   refine wp_block_k fun Kx149133 hKx149133 => ?_
   have hb5 : ∀ (l149183 : (List Int)) (x149187 : Int), r03_As_b5 x148796 l149183 x149187 = some o149022 → ∀ (A149184 : Option Addr) (n149185 : Nat) (c149186 : Nat) (ac : Act) (w : World), FR 199 [] ac [(1, .slice A1 n1 c1), (5, .slice A149184 n149185 c149186), (9, .int .u64 x149187), (10, .int .i64 x148796)] → SH r (own (kI .u8) 5 A149184 n149185 c149186 l149183 :: L) w → Kx149133 ac w := by
    intro l149183 x149187 hF A149184 n149185 c149186 ac w hA hS
    unfold r03_As_b5 at hF
    refine hKx149133 _ _ ?_
    refine hK149027 _ _ ?_
    refine wp_reg ?_
    refine x_m hA rfl fun ac hA => ?_
    obtain ⟨x149188, h149189, hF⟩ := ltt_ hF
    refine x_v (v := .int .i64 x149188) hA (rv_i h149189 (r_add rfl (hA.ev rfl) (hA.ev rfl))) rfl fun ac hA => ?_
    refine x_m hA rfl fun ac hA => ?_
    refine wpList_nil ?_
    cases hF
    exact ⟨_, N149022_ _ rfl, A149184, n149185, c149186, hA.sub _ rfl, hS⟩
   refine wp_seq_k fun K149190 hK149190 => ?_
   refine wp_seq_k fun K149191 hK149191 => ?_
   have hj2 : ∀ (b149201 : Bool), r03_As_j2 a1 l148791 x148795 x148796 b149201 = some o149022 → ∀ (ac : Act) (w : World), FR 199 [] ac [(1, .slice A1 n1 c1), (5, .slice A148792 n148793 c148794), (9, .int .u64 x148795), (10, .int .i64 x148796), (92, .bool b149201)] → SH r (own (kI .u8) 5 A148792 n148793 c148794 l148791 :: L) w → K149191 ac w := by
    intro b149201 hF ac w hA hS
    unfold r03_As_j2 at hF
    refine hK149191 _ _ ?_
    refine c_if hA rfl (fun hb149202 => ?_) fun hb149202 => ?_
    ·replace hF := ift hb149202 hF
     refine ws fun K149203 hK149203 => ?_
     refine x_m hA rfl fun ac hA => ?_
     obtain ⟨x149204, h149205, hF⟩ := ltt_ hF
     refine x_v (v := .int .u64 x149204) hA (rv_i h149205 (r_add rfl (hA.ev rfl) (hA.ev rfl))) rfl fun ac hA => ?_
     refine x_m hA rfl fun ac hA => ?_
     refine wn (hK149203 _ _ ?_)
     refine wp_exit ?_
     exact hb5 l148791 x149204 hF A148792 n148793 c148794 ac w (hA.sub _ rfl) hS
    replace hF := iff' hb149202 hF
    refine wp_skip ?_
    refine hK149190 _ _ ?_
    refine ws fun K149206 hK149206 => ?_
    refine x_m hA rfl fun ac hA => ?_
    refine x_m hA rfl fun ac hA => ?_
    refine x_m hA rfl fun ac hA => ?_
    obtain ⟨x149207, h149208, hF⟩ := bnd hF
    refine x_ia Tryd.underlying90 sz2 (hS.rdl 1 ha1 rfl) h149208 hA (fun ac hA => ?_) rfl rfl rfl rfl rfl rfl
    obtain ⟨cs, hV, hc149209⟩ := el (hS.rdl 1 ha1 rfl) h149208
    obtain rfl := hV
    refine x_ld Tryd.underlying2 (hc149209 0 _ rfl) hA (fun ac hA => ?_) rfl rfl rfl rfl rfl rfl
    obtain ⟨y149210, h149211, hF⟩ := bnd hF
    refine x_call en33 hA (F_r03_Int (L := own (kI .u8) 5 A148792 n148793 c148794 l148791 :: L) x149207 h149211 hS) (fun v ac w hR hA => ?_) rfl rfl rfl rfl rfl
    obtain ⟨B149212, m149213, d149214, rfl, hS⟩ := hR
    obtain ⟨h149215, hF⟩ := chk_some hF
    have hr := hS.rd 0 rfl
    refine x_app 1 inf5 Tryd.underlying24 hA hS hr.1 hr.2.1 h149215 rfl (fun A149216 n149217 c149218 ac w hS hA => ?_) rfl rfl rfl rfl rfl rfl rfl rfl rfl
    refine x_m hA rfl fun ac hA => ?_
    refine wn (hK149206 _ _ ?_)
    refine ws fun K149219 hK149219 => ?_
    refine x_m hA rfl fun ac hA => ?_
    refine x_m hA rfl fun ac hA => ?_
    obtain ⟨y149220, h149221, hF⟩ := bnd hF
    refine x_call en32 hA (F_r03_Uint (L := own (kI .u8) 5 A149216 n149217 c149218 (l148791 ++ y149210) :: own (kI .u8) 5 B149212 m149213 d149214 y149210 :: L) x148795 h149221 hS) (fun v ac w hR hA => ?_) rfl rfl rfl rfl rfl
    obtain ⟨B149222, m149223, d149224, rfl, hS⟩ := hR
    obtain ⟨h149225, hF⟩ := chk_some hF
    have hr := hS.rd 0 rfl
    refine x_app 1 inf5 Tryd.underlying24 hA hS hr.1 hr.2.1 h149225 rfl (fun A149226 n149227 c149228 ac w hS hA => ?_) rfl rfl rfl rfl rfl rfl rfl rfl rfl
    refine x_m hA rfl fun ac hA => ?_
    refine wn (hK149219 _ _ ?_)
    refine wp_reg ?_
    refine x_m hA rfl fun ac hA => ?_
    refine wpList_nil ?_
    replace hS := hS.drop 1
    replace hS := hS.drop 1
    exact hb5 ((l148791 ++ y149210) ++ y149220) 0 hF A149226 n149227 c149228 ac w (hA.sub _ rfl) hS
   refine wp_draw [0, 1, 0, 4, 15, 31, 63, 63, 191, 511, 1023, 63, 63, 6207, 14399, 32767, 65535] [] rfl hA hS (by kernel_rfl) (by kernel_rfl) (by kernel_rfl) (by kernel_rfl) fun w hS => ?_
   obtain ⟨x149229, h149230, hF⟩ := ltt_ hF
   refine bcase (b := decide (x149229 < (a1.length : Int))) (fun hb149231 => ?_) fun hb149231 => ?_
   ·replace hF := ift hb149231 hF
    obtain ⟨x149232, h149233, hF⟩ := bnd hF
    obtain ⟨cs, hV, hc149234⟩ := el (hS.rdl 1 ha1 rfl) h149233
    obtain rfl := hV
    obtain ⟨x149235, h149236, hF⟩ := bnd hF
    obtain ⟨cs, hV, hc149237⟩ := el (hS.rdl 1 ha1 rfl) h149236
    obtain rfl := hV
    refine ⟨[(0, .int .i64 x148796), (1, .int .i64 x149229), (2, .slice A1 n1 c1), (3, .int .i64 (a1.length : Int)), (4, .bool (decide (x149229 < (a1.length : Int)))), (5, .bool (decide (x149229 < (a1.length : Int)))), (6, .slice A1 n1 c1), (7, .int .i64 x148796), (8, .int .i64 x149229), (9, .pointer (some (ea A1 (x149229.toNat * 1)))), (10, .int .i64 x149232), (11, .slice A1 n1 c1), (12, .int .i64 x148796), (13, .pointer (some (ea A1 (x148796.toNat * 1)))), (14, .int .i64 x149235), (15, .bool (x149232 == x149235)), (16, .bool (x149232 == x149235))], ?_⟩
    refine dEnd [0, 1, 2, 3, 4, 5, 6, 7, 8, 9, 10, 11, 12, 13, 14, 15, 16] (by kernel_rfl) ⟨pu rfl rfl [(10, .int .i64 x148796)] (fun ac hA => y_move hA rfl rfl) rfl rfl, pu rfl rfl [(76, .int .i64 x148796)] (fun ac hA => (rv_i h149230 (r_add rfl (hA.ev rfl) (hA.ev rfl)) : RunV _ _ _ _ (.int .i64 x149229))) rfl rfl, pu rfl rfl [(1, .slice A1 n1 c1)] (fun ac hA => y_move hA rfl rfl) rfl rfl, pu rfl rfl [(78, .slice A1 n1 c1)] (fun ac hA => y_len Tryd.underlying90 (hS.rdl 1 ha1 rfl).2.1 hA rfl rfl) rfl rfl, pu rfl rfl [(77, .int .i64 x149229), (79, .int .i64 (a1.length : Int))] (fun ac hA => r_ltI rfl (hA.ev rfl) (hA.ev rfl)) rfl rfl, pu rfl rfl [(80, .bool (decide (x149229 < (a1.length : Int))))] (fun ac hA => y_move hA rfl rfl) rfl rfl, puOn rfl rfl rfl rfl [(1, .slice A1 n1 c1), (81, .bool (decide (x149229 < (a1.length : Int))))] rfl hb149231 (fun ac hA => y_move hA rfl rfl) rfl, puOn rfl rfl rfl rfl [(10, .int .i64 x148796), (81, .bool (decide (x149229 < (a1.length : Int))))] rfl hb149231 (fun ac hA => y_move hA rfl rfl) rfl, puOn rfl rfl rfl rfl [(81, .bool (decide (x149229 < (a1.length : Int)))), (83, .int .i64 x148796)] rfl hb149231 (fun ac hA => (rv_i h149230 (r_add rfl (hA.ev rfl) (hA.ev rfl)) : RunV _ _ _ _ (.int .i64 x149229))) rfl, puOn rfl rfl rfl rfl [(81, .bool (decide (x149229 < (a1.length : Int)))), (82, .slice A1 n1 c1), (84, .int .i64 x149229)] rfl hb149231 (fun ac hA => y_ia Tryd.underlying90 sz2 (hS.rdl 1 ha1 rfl) h149233 hA rfl rfl rfl) rfl, puOn rfl rfl rfl rfl [(81, .bool (decide (x149229 < (a1.length : Int)))), (85, .pointer (some (ea A1 (x149229.toNat * 1))))] rfl hb149231 (fun ac hA => y_ld Tryd.underlying2 (hc149234 0 _ rfl) hA rfl rfl rfl) rfl, puOn rfl rfl rfl rfl [(1, .slice A1 n1 c1), (81, .bool (decide (x149229 < (a1.length : Int))))] rfl hb149231 (fun ac hA => y_move hA rfl rfl) rfl, puOn rfl rfl rfl rfl [(10, .int .i64 x148796), (81, .bool (decide (x149229 < (a1.length : Int))))] rfl hb149231 (fun ac hA => y_move hA rfl rfl) rfl, puOn rfl rfl rfl rfl [(81, .bool (decide (x149229 < (a1.length : Int)))), (87, .slice A1 n1 c1), (88, .int .i64 x148796)] rfl hb149231 (fun ac hA => y_ia Tryd.underlying90 sz2 (hS.rdl 1 ha1 rfl) h149236 hA rfl rfl rfl) rfl, puOn rfl rfl rfl rfl [(81, .bool (decide (x149229 < (a1.length : Int)))), (89, .pointer (some (ea A1 (x148796.toNat * 1))))] rfl hb149231 (fun ac hA => y_ld Tryd.underlying2 (hc149237 0 _ rfl) hA rfl rfl rfl) rfl, puOn rfl rfl rfl rfl [(81, .bool (decide (x149229 < (a1.length : Int)))), (86, .int .i64 x149232), (90, .int .i64 x149235)] rfl hb149231 (fun ac hA => r_eqI rfl (hA.ev rfl) (hA.ev rfl)) rfl, pu rfl rfl [(81, .bool (decide (x149229 < (a1.length : Int)))), (91, .bool (x149232 == x149235))] (fun ac hA => y_pickt hb149231 hA rfl rfl rfl) rfl rfl, trivial⟩ ⟨by kernel_rfl, by kernel_rfl⟩ [(1, .slice A1 n1 c1), (5, .slice A148792 n148793 c148794), (9, .int .u64 x148795), (10, .int .i64 x148796), (82, .slice A1 n1 c1), (83, .int .i64 x148796), (84, .int .i64 x149229), (86, .int .i64 x149232), (87, .slice A1 n1 c1), (88, .int .i64 x148796), (90, .int .i64 x149235), (91, .bool (x149232 == x149235)), (92, .bool (x149232 == x149235))] rfl (fun ac hA => ?_)
    exact hj2 (x149232 == x149235) hF ac w (hA.sub _ rfl) hS
   replace hF := iff' hb149231 hF
   refine ⟨[(0, .int .i64 x148796), (1, .int .i64 x149229), (2, .slice A1 n1 c1), (3, .int .i64 (a1.length : Int)), (4, .bool (decide (x149229 < (a1.length : Int)))), (5, .bool (decide (x149229 < (a1.length : Int)))), (6, undef), (7, undef), (8, undef), (9, undef), (10, undef), (11, undef), (12, undef), (13, undef), (14, undef), (15, undef), (16, .bool false)], ?_⟩
   refine dEnd [0, 1, 2, 3, 4, 5, 6, 7, 8, 9, 10, 11, 12, 13, 14, 15, 16] (by kernel_rfl) ⟨pu rfl rfl [(10, .int .i64 x148796)] (fun ac hA => y_move hA rfl rfl) rfl rfl, pu rfl rfl [(76, .int .i64 x148796)] (fun ac hA => (rv_i h149230 (r_add rfl (hA.ev rfl) (hA.ev rfl)) : RunV _ _ _ _ (.int .i64 x149229))) rfl rfl, pu rfl rfl [(1, .slice A1 n1 c1)] (fun ac hA => y_move hA rfl rfl) rfl rfl, pu rfl rfl [(78, .slice A1 n1 c1)] (fun ac hA => y_len Tryd.underlying90 (hS.rdl 1 ha1 rfl).2.1 hA rfl rfl) rfl rfl, pu rfl rfl [(77, .int .i64 x149229), (79, .int .i64 (a1.length : Int))] (fun ac hA => r_ltI rfl (hA.ev rfl) (hA.ev rfl)) rfl rfl, pu rfl rfl [(80, .bool (decide (x149229 < (a1.length : Int))))] (fun ac hA => y_move hA rfl rfl) rfl rfl, puOff rfl rfl rfl rfl [(1, .slice A1 n1 c1), (81, .bool (decide (x149229 < (a1.length : Int))))] rfl hb149231 rfl, puOff rfl rfl rfl rfl [(10, .int .i64 x148796), (81, .bool (decide (x149229 < (a1.length : Int))))] rfl hb149231 rfl, puOff rfl rfl rfl rfl [(81, .bool (decide (x149229 < (a1.length : Int)))), (83, undef)] rfl hb149231 rfl, puOff rfl rfl rfl rfl [(81, .bool (decide (x149229 < (a1.length : Int)))), (82, undef), (84, undef)] rfl hb149231 rfl, puOff rfl rfl rfl rfl [(81, .bool (decide (x149229 < (a1.length : Int)))), (85, undef)] rfl hb149231 rfl, puOff rfl rfl rfl rfl [(1, .slice A1 n1 c1), (81, .bool (decide (x149229 < (a1.length : Int))))] rfl hb149231 rfl, puOff rfl rfl rfl rfl [(10, .int .i64 x148796), (81, .bool (decide (x149229 < (a1.length : Int))))] rfl hb149231 rfl, puOff rfl rfl rfl rfl [(81, .bool (decide (x149229 < (a1.length : Int)))), (87, undef), (88, undef)] rfl hb149231 rfl, puOff rfl rfl rfl rfl [(81, .bool (decide (x149229 < (a1.length : Int)))), (89, undef)] rfl hb149231 rfl, puOff rfl rfl rfl rfl [(81, .bool (decide (x149229 < (a1.length : Int)))), (86, undef), (90, undef)] rfl hb149231 rfl, pu rfl rfl [(81, .bool (decide (x149229 < (a1.length : Int)))), (91, undef)] (fun ac hA => y_pickf hb149231 hA rfl rfl rfl) rfl rfl, trivial⟩ ⟨by kernel_rfl, by kernel_rfl⟩ [(1, .slice A1 n1 c1), (5, .slice A148792 n148793 c148794), (9, .int .u64 x148795), (10, .int .i64 x148796), (92, .bool false)] rfl (fun ac hA => ?_)
   exact hj2 false hF ac w (hA.sub _ rfl) hS
  replace hF := iff' hb149026 hF
  refine wp_exit ?_
  cases hF
  exact hx149022_5 l148791 (T149022_ _ rfl) A148792 n148793 c148794 ac w (hA.sub _ rfl) hS
 replace hF := iff' hb147890 hF
 refine ws fun K149238 hK149238 => ?_
 refine x_v hA (r_eqI rfl (hA.ev rfl) (hA.ev rfl)) rfl fun ac hA => ?_
 refine x_m hA rfl fun ac hA => ?_
 refine wn (hK149238 _ _ ?_)
 refine c_if hA rfl (fun hb149239 => ?_) fun hb149239 => ?_
 ·replace hF := ift hb149239 hF
  refine wp_seq_k fun K149240 hK149240 => ?_
  refine ws fun K149241 hK149241 => ?_
  refine x_m hA rfl fun ac hA => ?_
  refine x_len Tryd.underlying90 (hS.rdl 2 ha1 rfl).2.1 hA (fun ac hA => ?_) rfl rfl rfl rfl rfl
  refine x_v hA (r_eqI rfl (hA.ev rfl) (hA.ev rfl)) rfl fun ac hA => ?_
  refine wn (hK149241 _ _ ?_)
  refine c_if hA rfl (fun hb149242 => ?_) fun hb149242 => ?_
  ·replace hF := ift hb149242 hF
   refine ws fun K149243 hK149243 => ?_
   refine x_m hA rfl fun ac hA => ?_
   refine x_m hA rfl fun ac hA => ?_
   refine wn (hK149243 _ _ ?_)
   refine wp_ret ?_
   replace hS := hS.drop 1
   cases hF
   refine hQ _ _ ?_
   refine lv Tryd.results74 hA rfl ?_
   exact ⟨A113, n114, c115, rfl, hS⟩
  replace hF := iff' hb149242 hF
  refine wp_skip ?_
  refine hK149240 _ _ ?_
  refine ws fun K149244 hK149244 => ?_
  refine x_m hA rfl fun ac hA => ?_
  obtain ⟨x149245, h149246, hF⟩ := bnd hF
  refine x_ia Tryd.underlying90 sz2 (hS.rdl 2 ha1 rfl) h149246 hA (fun ac hA => ?_) rfl rfl rfl rfl rfl rfl
  obtain ⟨cs, hV, hc149247⟩ := el (hS.rdl 2 ha1 rfl) h149246
  obtain rfl := hV
  refine x_ld Tryd.underlying2 (hc149247 0 _ rfl) hA (fun ac hA => ?_) rfl rfl rfl rfl rfl rfl
  refine x_m hA rfl fun ac hA => ?_
  refine wn (hK149244 _ _ ?_)
  refine wp_seq_k fun K149248 hK149248 => ?_
  refine ws fun K149485 hK149485 => ?_
  refine x_m hA rfl fun ac hA => ?_
  refine wn (hK149485 _ _ ?_)
  refine wp_block_k fun Kx149486 hKx149486 => ?_
  have hb6 : ∀ (x149603 : Int), r03_As_b6 a0 a1 y107 x149603 = some y → ∀ (ac : Act) (w : World), FR 199 [] ac [(1, .slice A1 n1 c1), (5, .slice A113 n114 c115), (11, .int .i64 x149603)] → SH r (own (kI .u8) 5 A113 n114 c115 ([a0] ++ y107) :: L) w → Kx149486 ac w := by
   intro x149603 hF ac w hA hS
   unfold r03_As_b6 at hF
   refine hKx149486 _ _ ?_
   refine hK149248 _ _ ?_
   refine ws fun K149604 hK149604 => ?_
   refine x_m hA rfl fun ac hA => ?_
   refine wn (hK149604 _ _ ?_)
   refine wp_seq_k fun K149605 hK149605 => ?_
   refine ws fun K149986 hK149986 => ?_
   refine x_m hA rfl fun ac hA => ?_
   refine wn (hK149986 _ _ ?_)
   refine wp_block_k fun Kx149987 hKx149987 => ?_
   have hb7 : ∀ (x150176 : Int), r03_As_b7 a0 a1 y107 x149603 x150176 = some y → ∀ (ac : Act) (w : World), FR 199 [] ac [(1, .slice A1 n1 c1), (5, .slice A113 n114 c115), (11, .int .i64 x149603), (13, .int .i64 x150176)] → SH r (own (kI .u8) 5 A113 n114 c115 ([a0] ++ y107) :: L) w → Kx149987 ac w := by
    intro x150176 hF ac w hA hS
    unfold r03_As_b7 at hF
    refine hKx149987 _ _ ?_
    refine hK149605 _ _ ?_
    refine ws fun K150177 hK150177 => ?_
    refine x_m hA rfl fun ac hA => ?_
    refine x_m hA rfl fun ac hA => ?_
    obtain ⟨y150178, h150179, hF⟩ := bnd hF
    refine x_call en33 hA (F_r03_Int (L := own (kI .u8) 5 A113 n114 c115 ([a0] ++ y107) :: L) x149603 h150179 hS) (fun v ac w hR hA => ?_) rfl rfl rfl rfl rfl
    obtain ⟨B150180, m150181, d150182, rfl, hS⟩ := hR
    obtain ⟨h150183, hF⟩ := chk_some hF
    have hr := hS.rd 0 rfl
    refine x_app 1 inf5 Tryd.underlying24 hA hS hr.1 hr.2.1 h150183 rfl (fun A150184 n150185 c150186 ac w hS hA => ?_) rfl rfl rfl rfl rfl rfl rfl rfl rfl
    refine x_m hA rfl fun ac hA => ?_
    refine wn (hK150177 _ _ ?_)
    refine ws fun K150187 hK150187 => ?_
    refine x_m hA rfl fun ac hA => ?_
    refine x_m hA rfl fun ac hA => ?_
    obtain ⟨x150188, h150189, hF⟩ := ltt_ hF
    refine x_v (v := .int .u8 x150188) hA (rv_i h150189 (r_convI Tryd.underlying3 Tryd.underlying5 rfl (hA.ev rfl))) rfl fun ac hA => ?_
    refine x_bsl (d := (kI .u8)) (e := 5) (ps := #[(0, .int .u8 x150188)]) (cells := [.int .u8 x150188]) (xs := [x150188]) (fun w => by kernel_rfl) rfl ⟨[.int .u8 x150188], _, rfl, rfl, rfl⟩ hA hS (fun g150190 ac w hS hA => ?_) rfl rfl rfl rfl rfl rfl
    obtain ⟨h150191, hF⟩ := chk_some hF
    have hr := hS.rd 0 rfl
    refine x_app 1 inf5 Tryd.underlying24 hA hS hr.1 hr.2.1 h150191 rfl (fun A150192 n150193 c150194 ac w hS hA => ?_) rfl rfl rfl rfl rfl rfl rfl rfl rfl
    refine x_m hA rfl fun ac hA => ?_
    refine wn (hK150187 _ _ ?_)
    refine ws fun K150195 hK150195 => ?_
    refine x_m hA rfl fun ac hA => ?_
    refine wn (hK150195 _ _ ?_)
    refine ws fun K150196 hK150196 => ?_
    refine x_m hA rfl fun ac hA => ?_
    refine wn (hK150196 _ _ ?_)
    refine wp_seq_k fun K150197 hK150197 => ?_
    refine ws fun K173215 hK173215 => ?_
    refine x_m hA rfl fun ac hA => ?_
    refine wn (hK173215 _ _ ?_)
    refine wp_block_k fun Kx173216 hKx173216 => ?_
    have hb8 : ∀ (l184721 : (List Int)) (x184725 : Int) (x184726 : Int), r03_As_b8 l184721 x184725 x184726 = some y → ∀ (A184722 : Option Addr) (n184723 : Nat) (c184724 : Nat) (ac : Act) (w : World), FR 199 [] ac [(5, .slice A184722 n184723 c184724), (16, .int .u8 x184725), (17, .int .i64 x184726)] → SH r (own (kI .u8) 5 A184722 n184723 c184724 l184721 :: L) w → Kx173216 ac w := by
     intro l184721 x184725 x184726 hF A184722 n184723 c184724 ac w hA hS
     unfold r03_As_b8 at hF
     refine hKx173216 _ _ ?_
     refine hK150197 _ _ ?_
     refine ws fun K184727 hK184727 => ?_
     refine x_m hA rfl fun ac hA => ?_
     refine x_v hA (r_gtI rfl (hA.ev rfl) (hA.ev rfl)) rfl fun ac hA => ?_
     refine wn (hK184727 _ _ ?_)
     refine c_if hA rfl (fun hb184728 => ?_) fun hb184728 => ?_
     ·replace hF := ift hb184728 hF
      refine wp_reg ?_
      refine x_m hA rfl fun ac hA => ?_
      refine x_m hA rfl fun ac hA => ?_
      refine x_bsl (d := (kI .u8)) (e := 5) (ps := #[(0, .int .u8 x184725)]) (cells := [.int .u8 x184725]) (xs := [x184725]) (fun w => by kernel_rfl) rfl ⟨[.int .u8 x184725], _, rfl, rfl, rfl⟩ hA hS (fun g184729 ac w hS hA => ?_) rfl rfl rfl rfl rfl rfl
      obtain ⟨h184730, hF⟩ := chk_some hF
      have hr := hS.rd 0 rfl
      refine x_app 1 inf5 Tryd.underlying24 hA hS hr.1 hr.2.1 h184730 rfl (fun A184731 n184732 c184733 ac w hS hA => ?_) rfl rfl rfl rfl rfl rfl rfl rfl rfl
      refine x_m hA rfl fun ac hA => ?_
      refine wpList_nil ?_
      replace hS := hS.drop 1
      exact hb1 (l184721 ++ [x184725]) hF A184731 n184732 c184733 ac w (hA.sub _ rfl) hS
     replace hF := iff' hb184728 hF
     refine wp_skip ?_
     exact hb1 l184721 hF A184722 n184723 c184724 ac w (hA.sub _ rfl) hS
    obtain ⟨t192400, hl192400, hF⟩ := bnd hF
    have hx192400_11 : ∀ (l192395 : (List Int)) (x192399 : Int) (x192400 : Int), (l192395, x192399, x192400) = t192400 → ∀ (A192396 : Option Addr) (n192397 : Nat) (c192398 : Nat) (ac : Act) (w : World), FR 199 [] ac [(5, .slice A192396 n192397 c192398), (16, .int .u8 x192399), (17, .int .i64 x192400)] → SH r (own (kI .u8) 5 A192396 n192397 c192398 l192395 :: L) w → Kx173216 ac w := by
     intro l192395 x192399 x192400 ht A192396 n192397 c192398 ac w hA hS
     subst ht
     replace hF : r03_As_x4_11 l192395 x192399 x192400 = some y := hF
     unfold r03_As_x4_11 at hF
     exact hb8 l192395 x192399 x192400 hF A192396 n192397 c192398 ac w (hA.sub _ rfl) hS
    replace hS := hS.drop 1
    replace hS := hS.drop 1
    refine wp_loop_fn hl192400 (fun s ac w => ∃ (A188546 : Option Addr) (n188547 : Nat) (c188548 : Nat), FR 199 [] ac [(1, .slice A1 n1 c1), (5, .slice A188546 n188547 c188548), (11, .int .i64 x149603), (13, .int .i64 x150176), (16, .int .u8 s.2.1), (17, .int .i64 s.2.2.1), (18, .int .i64 s.2.2.2)] ∧ SH r (own (kI .u8) 5 A188546 n188547 c188548 s.1 :: L) w) ⟨A150192, n150193, c150194, hA.sub _ rfl, hS⟩ ?_
    intro N192400 s192400 o192400 hF N192400_ T192400_ ac w hLab
    obtain ⟨l188545, x188549, x188550, x188551⟩ := s192400
    replace hF : r03_As_l4 a1 x149603 x150176 l188545 x188549 x188550 x188551 = some o192400 := hF
    unfold r03_As_l4 at hF
    try dsimp only at hLab
    obtain ⟨A188546, n188547, c188548, hA, hS⟩ := hLab
    refine wp_seq_k fun K192402 hK192402 => ?_
    refine ws fun K192403 hK192403 => ?_
    refine x_m hA rfl fun ac hA => ?_
    refine x_m hA rfl fun ac hA => ?_
    refine x_len Tryd.underlying90 (hS.rdl 1 ha1 rfl).2.1 hA (fun ac hA => ?_) rfl rfl rfl rfl rfl
    refine x_v hA (r_ltI rfl (hA.ev rfl) (hA.ev rfl)) rfl fun ac hA => ?_
    refine wn (hK192403 _ _ ?_)
    refine c_if hA rfl (fun hb192404 => ?_) fun hb192404 => ?_
    ·replace hF := ift hb192404 hF
     refine wp_skip ?_
     refine hK192402 _ _ ?_
     refine wp_seq_k fun K192405 hK192405 => ?_
     refine wp_block_k fun Kx194321 hKx194321 => ?_
     refine ws fun K195279 hK195279 => ?_
     refine x_m hA rfl fun ac hA => ?_
     refine wn (hK195279 _ _ ?_)
     refine wp_block_k fun Kx195280 hKx195280 => ?_
     have hb9 : ∀ (l195755 : (List Int)) (x195759 : Int) (x195760 : Int), r03_As_b9 x188551 l195755 x195759 x195760 = some o192400 → ∀ (A195756 : Option Addr) (n195757 : Nat) (c195758 : Nat) (ac : Act) (w : World), FR 199 [] ac [(1, .slice A1 n1 c1), (5, .slice A195756 n195757 c195758), (11, .int .i64 x149603), (13, .int .i64 x150176), (16, .int .u8 x195759), (17, .int .i64 x195760), (18, .int .i64 x188551)] → SH r (own (kI .u8) 5 A195756 n195757 c195758 l195755 :: L) w → Kx195280 ac w := by
      intro l195755 x195759 x195760 hF A195756 n195757 c195758 ac w hA hS
      unfold r03_As_b9 at hF
      refine hKx195280 _ _ ?_
      refine hKx194321 _ _ ?_
      refine hK192405 _ _ ?_
      refine wp_reg ?_
      refine x_m hA rfl fun ac hA => ?_
      obtain ⟨x195761, h195762, hF⟩ := ltt_ hF
      refine x_v (v := .int .i64 x195761) hA (rv_i h195762 (r_add rfl (hA.ev rfl) (hA.ev rfl))) rfl fun ac hA => ?_
      refine x_m hA rfl fun ac hA => ?_
      refine wpList_nil ?_
      cases hF
      exact ⟨_, N192400_ _ rfl, A195756, n195757, c195758, hA.sub _ rfl, hS⟩
     obtain ⟨t196085, hl196085, hF⟩ := bnd hF
     have hx196085_13 : ∀ (l196080 : (List Int)) (x196084 : Int) (x196085 : Int), (l196080, x196084, x196085) = t196085 → ∀ (A196081 : Option Addr) (n196082 : Nat) (c196083 : Nat) (ac : Act) (w : World), FR 199 [] ac [(1, .slice A1 n1 c1), (5, .slice A196081 n196082 c196083), (11, .int .i64 x149603), (13, .int .i64 x150176), (16, .int .u8 x196084), (17, .int .i64 x196085), (18, .int .i64 x188551)] → SH r (own (kI .u8) 5 A196081 n196082 c196083 l196080 :: L) w → Kx195280 ac w := by
      intro l196080 x196084 x196085 ht A196081 n196082 c196083 ac w hA hS
      subst ht
      replace hF : r03_As_x5_13 x188551 l196080 x196084 x196085 = some o192400 := hF
      unfold r03_As_x5_13 at hF
      exact hb9 l196080 x196084 x196085 hF A196081 n196082 c196083 ac w (hA.sub _ rfl) hS
     refine wp_loop_fn hl196085 (fun s ac w => ∃ (A195917 : Option Addr) (n195918 : Nat) (c195919 : Nat), FR 199 [] ac [(1, .slice A1 n1 c1), (5, .slice A195917 n195918 c195919), (11, .int .i64 x149603), (13, .int .i64 x150176), (16, .int .u8 s.2.1), (17, .int .i64 s.2.2.1), (18, .int .i64 x188551), (19, .int .i64 s.2.2.2)] ∧ SH r (own (kI .u8) 5 A195917 n195918 c195919 s.1 :: L) w) ⟨A188546, n188547, c188548, hA.sub _ rfl, hS⟩ ?_
     intro N196085 s196085 o196085 hF N196085_ T196085_ ac w hLab
     obtain ⟨l195916, x195920, x195921, x195922⟩ := s196085
     replace hF : r03_As_l5 a1 x149603 x150176 x188551 l195916 x195920 x195921 x195922 = some o196085 := hF
     unfold r03_As_l5 at hF
     try dsimp only at hLab
     obtain ⟨A195917, n195918, c195919, hA, hS⟩ := hLab
     refine wp_seq_k fun K196087 hK196087 => ?_
     refine ws fun K196088 hK196088 => ?_
     refine x_m hA rfl fun ac hA => ?_
     refine x_m hA rfl fun ac hA => ?_
     refine x_v hA (r_ltI rfl (hA.ev rfl) (hA.ev rfl)) rfl fun ac hA => ?_
     refine wn (hK196088 _ _ ?_)
     refine c_if hA rfl (fun hb196089 => ?_) fun hb196089 => ?_
     ·replace hF := ift hb196089 hF
      refine wp_skip ?_
      refine hK196087 _ _ ?_
      refine wp_seq_k fun K196090 hK196090 => ?_
      refine wp_block_k fun Kx196163 hKx196163 => ?_
      have hb10 : ∀ (l196196 : (List Int)) (x196200 : Int) (x196201 : Int), r03_As_b10 x195922 l196196 x196200 x196201 = some o196085 → ∀ (A196197 : Option Addr) (n196198 : Nat) (c196199 : Nat) (ac : Act) (w : World), FR 199 [] ac [(1, .slice A1 n1 c1), (5, .slice A196197 n196198 c196199), (11, .int .i64 x149603), (13, .int .i64 x150176), (16, .int .u8 x196200), (17, .int .i64 x196201), (18, .int .i64 x188551), (19, .int .i64 x195922)] → SH r (own (kI .u8) 5 A196197 n196198 c196199 l196196 :: L) w → Kx196163 ac w := by
       intro l196196 x196200 x196201 hF A196197 n196198 c196199 ac w hA hS
       unfold r03_As_b10 at hF
       refine hKx196163 _ _ ?_
       refine hK196090 _ _ ?_
       refine wp_reg ?_
       refine x_m hA rfl fun ac hA => ?_
       obtain ⟨x196202, h196203, hF⟩ := ltt_ hF
       refine x_v (v := .int .i64 x196202) hA (rv_i h196203 (r_add rfl (hA.ev rfl) (hA.ev rfl))) rfl fun ac hA => ?_
       refine x_m hA rfl fun ac hA => ?_
       refine wpList_nil ?_
       cases hF
       exact ⟨_, N196085_ _ rfl, A196197, n196198, c196199, hA.sub _ rfl, hS⟩
      refine ws fun K196204 hK196204 => ?_
      refine x_m hA rfl fun ac hA => ?_
      refine x_m hA rfl fun ac hA => ?_
      refine x_m hA rfl fun ac hA => ?_
      obtain ⟨x196205, h196206, hF⟩ := bnd hF
      refine x_ia Tryd.underlying90 sz2 (hS.rdl 1 ha1 rfl) h196206 hA (fun ac hA => ?_) rfl rfl rfl rfl rfl rfl
      obtain ⟨cs, hV, hc196207⟩ := el (hS.rdl 1 ha1 rfl) h196206
      obtain rfl := hV
      refine x_ld Tryd.underlying2 (hc196207 0 _ rfl) hA (fun ac hA => ?_) rfl rfl rfl rfl rfl rfl
      refine x_m hA rfl fun ac hA => ?_
      obtain ⟨x196208, h196209, hF⟩ := ltt_ hF
      refine x_v (v := .int .i64 x196208) hA (rv_i h196209 (r_sub rfl (hA.ev rfl) (hA.ev rfl))) rfl fun ac hA => ?_
      obtain ⟨x196210, h196211, hF⟩ := ltt_ hF
      refine x_v (v := .int .u64 x196210) hA (rv_i h196211 (r_convI Tryd.underlying2 Tryd.underlying31 rfl (hA.ev rfl))) rfl fun ac hA => ?_
      refine x_m hA rfl fun ac hA => ?_
      obtain ⟨h196212, hF⟩ := chk_some hF
      obtain ⟨x196213, h196214, hF⟩ := ltt_ hF
      refine x_v (v := .int .u64 x196213) hA (rv_i h196214 (r_shr rfl (hA.ev rfl) (hA.ev rfl) h196212)) rfl fun ac hA => ?_
      obtain ⟨x196215, h196216, hF⟩ := ltt_ hF
      refine x_v (v := .int .u64 x196215) hA (rv_i h196216 (r_rem rfl (hA.ev rfl) (hA.ev rfl) (by decide))) rfl fun ac hA => ?_
      obtain ⟨x196217, h196218, hF⟩ := ltt_ hF
      refine x_v (v := .int .u8 x196217) hA (rv_i h196218 (r_convI Tryd.underlying31 Tryd.underlying5 rfl (hA.ev rfl))) rfl fun ac hA => ?_
      refine x_m hA rfl fun ac hA => ?_
      obtain ⟨h196219, hF⟩ := chk_some hF
      obtain ⟨x196220, h196221, hF⟩ := ltt_ hF
      refine x_v (v := .int .u8 x196220) hA (rv_i h196221 (r_shl rfl (hA.ev rfl) (hA.ev rfl) h196219)) rfl fun ac hA => ?_
      obtain ⟨x196222, h196223, hF⟩ := ltt_ hF
      refine x_v (v := .int .u8 x196222) hA (rv_i h196223 (r_add rfl (hA.ev rfl) (hA.ev rfl))) rfl fun ac hA => ?_
      refine x_m hA rfl fun ac hA => ?_
      refine wn (hK196204 _ _ ?_)
      refine ws fun K196224 hK196224 => ?_
      refine x_m hA rfl fun ac hA => ?_
      obtain ⟨x196225, h196226, hF⟩ := ltt_ hF
      refine x_v (v := .int .i64 x196225) hA (rv_i h196226 (r_add rfl (hA.ev rfl) (hA.ev rfl))) rfl fun ac hA => ?_
      refine x_m hA rfl fun ac hA => ?_
      refine wn (hK196224 _ _ ?_)
      refine ws fun K196227 hK196227 => ?_
      refine x_m hA rfl fun ac hA => ?_
      refine x_v hA (r_eqI rfl (hA.ev rfl) (hA.ev rfl)) rfl fun ac hA => ?_
      refine wn (hK196227 _ _ ?_)
      refine c_if hA rfl (fun hb196228 => ?_) fun hb196228 => ?_
      ·replace hF := ift hb196228 hF
       refine ws fun K196229 hK196229 => ?_
       refine x_m hA rfl fun ac hA => ?_
       refine x_m hA rfl fun ac hA => ?_
       refine x_bsl (d := (kI .u8)) (e := 5) (ps := #[(0, .int .u8 x196222)]) (cells := [.int .u8 x196222]) (xs := [x196222]) (fun w => by kernel_rfl) rfl ⟨[.int .u8 x196222], _, rfl, rfl, rfl⟩ hA hS (fun g196230 ac w hS hA => ?_) rfl rfl rfl rfl rfl rfl
       obtain ⟨h196231, hF⟩ := chk_some hF
       have hr := hS.rd 0 rfl
       refine x_app 1 inf5 Tryd.underlying24 hA hS hr.1 hr.2.1 h196231 rfl (fun A196232 n196233 c196234 ac w hS hA => ?_) rfl rfl rfl rfl rfl rfl rfl rfl rfl
       refine x_m hA rfl fun ac hA => ?_
       refine wn (hK196229 _ _ ?_)
       refine ws fun K196235 hK196235 => ?_
       refine x_m hA rfl fun ac hA => ?_
       refine wn (hK196235 _ _ ?_)
       refine wp_reg ?_
       refine x_m hA rfl fun ac hA => ?_
       refine wpList_nil ?_
       replace hS := hS.drop 1
       exact hb10 (l195916 ++ [x196222]) 0 0 hF A196232 n196233 c196234 ac w (hA.sub _ rfl) hS
      replace hF := iff' hb196228 hF
      refine wp_skip ?_
      exact hb10 l195916 x196222 x196225 hF A195917 n195918 c195919 ac w (hA.sub _ rfl) hS
     replace hF := iff' hb196089 hF
     refine wp_exit ?_
     cases hF
     exact hx196085_13 l195916 x195920 x195921 (T196085_ _ rfl) A195917 n195918 c195919 ac w (hA.sub _ rfl) hS
    replace hF := iff' hb192404 hF
    refine wp_exit ?_
    cases hF
    exact hx192400_11 l188545 x188549 x188550 (T192400_ _ rfl) A188546 n188547 c188548 ac w (hA.sub _ rfl) hS
   obtain ⟨t196362, hl196362, hF⟩ := bnd hF
   have hx196362_9 : ∀ (x196362 : Int), (x196362) = t196362 → ∀ (ac : Act) (w : World), FR 199 [] ac [(1, .slice A1 n1 c1), (5, .slice A113 n114 c115), (11, .int .i64 x149603), (13, .int .i64 x196362)] → SH r (own (kI .u8) 5 A113 n114 c115 ([a0] ++ y107) :: L) w → Kx149987 ac w := by
    intro x196362 ht ac w hA hS
    subst ht
    replace hF : r03_As_x6_9 a0 a1 y107 x149603 x196362 = some y := hF
    unfold r03_As_x6_9 at hF
    exact hb7 x196362 hF ac w (hA.sub _ rfl) hS
   refine wp_loop_fn hl196362 (fun s ac w => FR 199 [] ac [(1, .slice A1 n1 c1), (5, .slice A113 n114 c115), (11, .int .i64 x149603), (13, .int .i64 s.1), (14, .int .i64 s.2)] ∧ SH r (own (kI .u8) 5 A113 n114 c115 ([a0] ++ y107) :: L) w) ⟨hA.sub _ rfl, hS⟩ ?_
   intro N196362 s196362 o196362 hF N196362_ T196362_ ac w hLab
   obtain ⟨x196298, x196299⟩ := s196362
   replace hF : r03_As_l6 a1 x149603 x196298 x196299 = some o196362 := hF
   unfold r03_As_l6 at hF
   try dsimp only at hLab
   obtain ⟨hA, hS⟩ := hLab
   refine wp_seq_k fun K196364 hK196364 => ?_
   refine ws fun K196365 hK196365 => ?_
   refine x_m hA rfl fun ac hA => ?_
   refine x_m hA rfl fun ac hA => ?_
   refine x_len Tryd.underlying90 (hS.rdl 1 ha1 rfl).2.1 hA (fun ac hA => ?_) rfl rfl rfl rfl rfl
   refine x_v hA (r_ltI rfl (hA.ev rfl) (hA.ev rfl)) rfl fun ac hA => ?_
   refine wn (hK196365 _ _ ?_)
   refine c_if hA rfl (fun hb196366 => ?_) fun hb196366 => ?_
   ·replace hF := ift hb196366 hF
    refine wp_skip ?_
    refine hK196364 _ _ ?_
    refine wp_seq_k fun K196367 hK196367 => ?_
    refine wp_block_k fun Kx196395 hKx196395 => ?_
    have hb11 : ∀ (x196408 : Int), r03_As_b11 x196299 x196408 = some o196362 → ∀ (ac : Act) (w : World), FR 199 [] ac [(1, .slice A1 n1 c1), (5, .slice A113 n114 c115), (11, .int .i64 x149603), (13, .int .i64 x196408), (14, .int .i64 x196299)] → SH r (own (kI .u8) 5 A113 n114 c115 ([a0] ++ y107) :: L) w → Kx196395 ac w := by
     intro x196408 hF ac w hA hS
     unfold r03_As_b11 at hF
     refine hKx196395 _ _ ?_
     refine hK196367 _ _ ?_
     refine wp_reg ?_
     refine x_m hA rfl fun ac hA => ?_
     obtain ⟨x196409, h196410, hF⟩ := ltt_ hF
     refine x_v (v := .int .i64 x196409) hA (rv_i h196410 (r_add rfl (hA.ev rfl) (hA.ev rfl))) rfl fun ac hA => ?_
     refine x_m hA rfl fun ac hA => ?_
     refine wpList_nil ?_
     cases hF
     exact ⟨_, N196362_ _ rfl, hA.sub _ rfl, hS⟩
    refine ws fun K196411 hK196411 => ?_
    refine x_m hA rfl fun ac hA => ?_
    refine x_m hA rfl fun ac hA => ?_
    obtain ⟨x196412, h196413, hF⟩ := bnd hF
    refine x_ia Tryd.underlying90 sz2 (hS.rdl 1 ha1 rfl) h196413 hA (fun ac hA => ?_) rfl rfl rfl rfl rfl rfl
    obtain ⟨cs, hV, hc196414⟩ := el (hS.rdl 1 ha1 rfl) h196413
    obtain rfl := hV
    refine x_ld Tryd.underlying2 (hc196414 0 _ rfl) hA (fun ac hA => ?_) rfl rfl rfl rfl rfl rfl
    refine x_m hA rfl fun ac hA => ?_
    obtain ⟨x196415, h196416, hF⟩ := ltt_ hF
    refine x_v (v := .int .i64 x196415) hA (rv_i h196416 (r_sub rfl (hA.ev rfl) (hA.ev rfl))) rfl fun ac hA => ?_
    obtain ⟨x196417, h196418, hF⟩ := ltt_ hF
    refine x_v (v := .int .u64 x196417) hA (rv_i h196418 (r_convI Tryd.underlying2 Tryd.underlying31 rfl (hA.ev rfl))) rfl fun ac hA => ?_
    obtain ⟨y196419, h196420, hF⟩ := bnd hF
    refine x_call en91 hA (F_r03_width (L := own (kI .u8) 5 A113 n114 c115 ([a0] ++ y107) :: L) x196417 h196420 hS) (fun v ac w hR hA => ?_) rfl rfl rfl rfl rfl
    obtain ⟨rfl, hS⟩ := hR
    refine x_m hA rfl fun ac hA => ?_
    refine wn (hK196411 _ _ ?_)
    refine ws fun K196421 hK196421 => ?_
    refine x_m hA rfl fun ac hA => ?_
    refine x_m hA rfl fun ac hA => ?_
    refine x_v hA (r_gtI rfl (hA.ev rfl) (hA.ev rfl)) rfl fun ac hA => ?_
    refine wn (hK196421 _ _ ?_)
    refine c_if hA rfl (fun hb196422 => ?_) fun hb196422 => ?_
    ·replace hF := ift hb196422 hF
     refine wp_reg ?_
     refine x_m hA rfl fun ac hA => ?_
     refine x_m hA rfl fun ac hA => ?_
     refine wpList_nil ?_
     exact hb11 y196419 hF ac w (hA.sub _ rfl) hS
    replace hF := iff' hb196422 hF
    refine wp_skip ?_
    exact hb11 x196298 hF ac w (hA.sub _ rfl) hS
   replace hF := iff' hb196366 hF
   refine wp_exit ?_
   cases hF
   exact hx196362_9 x196298 (T196362_ _ rfl) ac w (hA.sub _ rfl) hS
  obtain ⟨t196501, hl196501, hF⟩ := bnd hF
  have hx196501_7 : ∀ (x196501 : Int), (x196501) = t196501 → ∀ (ac : Act) (w : World), FR 199 [] ac [(1, .slice A1 n1 c1), (5, .slice A113 n114 c115), (11, .int .i64 x196501)] → SH r (own (kI .u8) 5 A113 n114 c115 ([a0] ++ y107) :: L) w → Kx149486 ac w := by
   intro x196501 ht ac w hA hS
   subst ht
   replace hF : r03_As_x7_7 a0 a1 y107 x196501 = some y := hF
   unfold r03_As_x7_7 at hF
   exact hb6 x196501 hF ac w (hA.sub _ rfl) hS
  replace hS := hS.drop 1
  refine wp_loop_fn hl196501 (fun s ac w => FR 199 [] ac [(1, .slice A1 n1 c1), (5, .slice A113 n114 c115), (11, .int .i64 s.1), (12, .int .i64 s.2)] ∧ SH r (own (kI .u8) 5 A113 n114 c115 ([a0] ++ y107) :: L) w) ⟨hA.sub _ rfl, hS⟩ ?_
  intro N196501 s196501 o196501 hF N196501_ T196501_ ac w hLab
  obtain ⟨x196461, x196462⟩ := s196501
  replace hF : r03_As_l7 a1 x196461 x196462 = some o196501 := hF
  unfold r03_As_l7 at hF
  try dsimp only at hLab
  obtain ⟨hA, hS⟩ := hLab
  refine wp_seq_k fun K196503 hK196503 => ?_
  refine ws fun K196504 hK196504 => ?_
  refine x_m hA rfl fun ac hA => ?_
  refine x_m hA rfl fun ac hA => ?_
  refine x_len Tryd.underlying90 (hS.rdl 1 ha1 rfl).2.1 hA (fun ac hA => ?_) rfl rfl rfl rfl rfl
  refine x_v hA (r_ltI rfl (hA.ev rfl) (hA.ev rfl)) rfl fun ac hA => ?_
  refine wn (hK196504 _ _ ?_)
  refine c_if hA rfl (fun hb196505 => ?_) fun hb196505 => ?_
  ·replace hF := ift hb196505 hF
   refine wp_skip ?_
   refine hK196503 _ _ ?_
   refine wp_seq_k fun K196506 hK196506 => ?_
   refine wp_block_k fun Kx196522 hKx196522 => ?_
   have hb12 : ∀ (x196529 : Int), r03_As_b12 x196462 x196529 = some o196501 → ∀ (ac : Act) (w : World), FR 199 [] ac [(1, .slice A1 n1 c1), (5, .slice A113 n114 c115), (11, .int .i64 x196529), (12, .int .i64 x196462)] → SH r (own (kI .u8) 5 A113 n114 c115 ([a0] ++ y107) :: L) w → Kx196522 ac w := by
    intro x196529 hF ac w hA hS
    unfold r03_As_b12 at hF
    refine hKx196522 _ _ ?_
    refine hK196506 _ _ ?_
    refine wp_reg ?_
    refine x_m hA rfl fun ac hA => ?_
    obtain ⟨x196530, h196531, hF⟩ := ltt_ hF
    refine x_v (v := .int .i64 x196530) hA (rv_i h196531 (r_add rfl (hA.ev rfl) (hA.ev rfl))) rfl fun ac hA => ?_
    refine x_m hA rfl fun ac hA => ?_
    refine wpList_nil ?_
    cases hF
    exact ⟨_, N196501_ _ rfl, hA.sub _ rfl, hS⟩
   refine ws fun K196532 hK196532 => ?_
   refine x_m hA rfl fun ac hA => ?_
   refine x_m hA rfl fun ac hA => ?_
   obtain ⟨x196533, h196534, hF⟩ := bnd hF
   refine x_ia Tryd.underlying90 sz2 (hS.rdl 1 ha1 rfl) h196534 hA (fun ac hA => ?_) rfl rfl rfl rfl rfl rfl
   obtain ⟨cs, hV, hc196535⟩ := el (hS.rdl 1 ha1 rfl) h196534
   obtain rfl := hV
   refine x_ld Tryd.underlying2 (hc196535 0 _ rfl) hA (fun ac hA => ?_) rfl rfl rfl rfl rfl rfl
   refine x_m hA rfl fun ac hA => ?_
   refine x_v hA (r_ltI rfl (hA.ev rfl) (hA.ev rfl)) rfl fun ac hA => ?_
   refine wn (hK196532 _ _ ?_)
   refine c_if hA rfl (fun hb196536 => ?_) fun hb196536 => ?_
   ·replace hF := ift hb196536 hF
    refine wp_reg ?_
    refine x_m hA rfl fun ac hA => ?_
    refine x_m hA rfl fun ac hA => ?_
    refine x_ia Tryd.underlying90 sz2 (hS.rdl 1 ha1 rfl) h196534 hA (fun ac hA => ?_) rfl rfl rfl rfl rfl rfl
    obtain ⟨cs, hV, hc196537⟩ := el (hS.rdl 1 ha1 rfl) h196534
    obtain rfl := hV
    refine x_ld Tryd.underlying2 (hc196537 0 _ rfl) hA (fun ac hA => ?_) rfl rfl rfl rfl rfl rfl
    refine x_m hA rfl fun ac hA => ?_
    refine wpList_nil ?_
    exact hb12 x196533 hF ac w (hA.sub _ rfl) hS
   replace hF := iff' hb196536 hF
   refine wp_skip ?_
   exact hb12 x196461 hF ac w (hA.sub _ rfl) hS
  replace hF := iff' hb196505 hF
  refine wp_exit ?_
  cases hF
  exact hx196501_7 x196461 (T196501_ _ rfl) ac w (hA.sub _ rfl) hS
 replace hF := iff' hb149239 hF
 refine wp_skip ?_
 replace hS := hS.drop 1
 exact hb1 ([a0] ++ y107) hF A113 n114 c115 ac w (hA.sub _ rfl) hS
theorem F_r03_Ints {r : World} {L : List HP} {w : World} (a0 : (List Int)) (A0 : Option Addr) (n0 : Nat) (c0 : Nat) {y : ((List Int))} (hF : r03_Ints a0 = some y) (ha0 : RdL L (kI .i64) A0 n0 c0 a0) (hS : SH r (L) w) :
  Ret Tryd.prog 51 #[.slice A0 n0 c0] w fun v w' => ∃ (B0 : Option Addr) (m0 : Nat) (d0 : Nat), v = .slice B0 m0 d0 ∧ SH r (own (kI .u8) 5 B0 m0 d0 y :: L) w' := by
 refine enter Tryd.func51 rfl Tryd.ntmps51 [(0, .slice A0 n0 c0)] rfl (by simp) ?_
 intro ac hA Qf hQ hQn
 unfold r03_Ints at hF
 refine ws fun K101 hK101 => ?_
 refine x_m hA rfl fun ac hA => ?_
 refine wn (hK101 _ _ ?_)
 refine ws fun K102 hK102 => ?_
 refine x_m hA rfl fun ac hA => ?_
 obtain ⟨y103, h104, hF⟩ := bnd hF
 refine x_call en74 hA (F_r03_As (L := L) 0 a0 A0 n0 c0 h104 (RdL.sfx 0 rfl ha0) hS) (fun v ac w hR hA => ?_) rfl rfl rfl rfl rfl
 obtain ⟨B105, m106, d107, rfl, hS⟩ := hR
 refine x_m hA rfl fun ac hA => ?_
 refine wn (hK102 _ _ ?_)
 refine wp_seq_k fun K108 hK108 => ?_
 refine ws fun K456 hK456 => ?_
 refine x_m hA rfl fun ac hA => ?_
 refine wn (hK456 _ _ ?_)
 refine wp_block_k fun Kx457 hKx457 => ?_
 have hb1 : ∀ (l628 : (List Int)), r03_Ints_b1 l628 = some y → ∀ (A629 : Option Addr) (n630 : Nat) (c631 : Nat) (ac : Act) (w : World), FR 22 [] ac [(3, .slice A629 n630 c631)] → SH r (own (kI .u8) 5 A629 n630 c631 l628 :: L) w → Kx457 ac w := by
  intro l628 hF A629 n630 c631 ac w hA hS
  unfold r03_Ints_b1 at hF
  refine hKx457 _ _ ?_
  refine hK108 _ _ ?_
  refine ws fun K632 hK632 => ?_
  refine x_m hA rfl fun ac hA => ?_
  refine x_m hA rfl fun ac hA => ?_
  refine wn (hK632 _ _ ?_)
  refine wp_ret ?_
  cases hF
  refine hQ _ _ ?_
  refine lv Tryd.results51 hA rfl ?_
  exact ⟨A629, n630, c631, rfl, hS⟩
 obtain ⟨t751, hl751, hF⟩ := bnd hF
 have hx751_0 : ∀ (l748 : (List Int)), (l748) = t751 → ∀ (A749 : Option Addr) (n750 : Nat) (c751 : Nat) (ac : Act) (w : World), FR 22 [] ac [(3, .slice A749 n750 c751)] → SH r (own (kI .u8) 5 A749 n750 c751 l748 :: L) w → Kx457 ac w := by
  intro l748 ht A749 n750 c751 ac w hA hS
  subst ht
  replace hF : r03_Ints_x1_0 l748 = some y := hF
  unfold r03_Ints_x1_0 at hF
  exact hb1 l748 hF A749 n750 c751 ac w (hA.sub _ rfl) hS
 refine wp_loop_fn hl751 (fun s ac w => ∃ (A689 : Option Addr) (n690 : Nat) (c691 : Nat), FR 22 [] ac [(0, .slice A0 n0 c0), (3, .slice A689 n690 c691), (4, .int .u8 s.2)] ∧ SH r (own (kI .u8) 5 A689 n690 c691 s.1 :: L) w) ⟨B105, m106, d107, hA.sub _ rfl, hS⟩ ?_
 intro N751 s751 o751 hF N751_ T751_ ac w hLab
 obtain ⟨l688, x692⟩ := s751
 replace hF : r03_Ints_l1 a0 l688 x692 = some o751 := hF
 unfold r03_Ints_l1 at hF
 try dsimp only at hLab
 obtain ⟨A689, n690, c691, hA, hS⟩ := hLab
 refine wp_seq_k fun K753 hK753 => ?_
 refine ws fun K754 hK754 => ?_
 refine x_m hA rfl fun ac hA => ?_
 refine x_v hA (r_ltI rfl (hA.ev rfl) (hA.ev rfl)) rfl fun ac hA => ?_
 refine wn (hK754 _ _ ?_)
 refine c_if hA rfl (fun hb755 => ?_) fun hb755 => ?_
 ·replace hF := ift hb755 hF
  refine wp_skip ?_
  refine hK753 _ _ ?_
  refine wp_seq_k fun K756 hK756 => ?_
  refine wp_block_k fun Kx779 hKx779 => ?_
  have hb2 : ∀ (l788 : (List Int)), r03_Ints_b2 x692 l788 = some o751 → ∀ (A789 : Option Addr) (n790 : Nat) (c791 : Nat) (ac : Act) (w : World), FR 22 [] ac [(0, .slice A0 n0 c0), (3, .slice A789 n790 c791), (4, .int .u8 x692)] → SH r (own (kI .u8) 5 A789 n790 c791 l788 :: L) w → Kx779 ac w := by
   intro l788 hF A789 n790 c791 ac w hA hS
   unfold r03_Ints_b2 at hF
   refine hKx779 _ _ ?_
   refine hK756 _ _ ?_
   refine wp_reg ?_
   refine x_m hA rfl fun ac hA => ?_
   obtain ⟨x792, h793, hF⟩ := ltt_ hF
   refine x_v (v := .int .u8 x792) hA (rv_i h793 (r_add rfl (hA.ev rfl) (hA.ev rfl))) rfl fun ac hA => ?_
   refine x_m hA rfl fun ac hA => ?_
   refine wpList_nil ?_
   cases hF
   exact ⟨_, N751_ _ rfl, A789, n790, c791, hA.sub _ rfl, hS⟩
  refine ws fun K794 hK794 => ?_
  refine x_m hA rfl fun ac hA => ?_
  refine x_m hA rfl fun ac hA => ?_
  obtain ⟨y795, h796, hF⟩ := bnd hF
  refine x_call en74 hA (F_r03_As (L := own (kI .u8) 5 A689 n690 c691 l688 :: L) x692 a0 A0 n0 c0 h796 (RdL.sfx 1 rfl ha0) hS) (fun v ac w hR hA => ?_) rfl rfl rfl rfl rfl
  obtain ⟨B797, m798, d799, rfl, hS⟩ := hR
  refine x_m hA rfl fun ac hA => ?_
  refine wn (hK794 _ _ ?_)
  refine ws fun K800 hK800 => ?_
  refine x_m hA rfl fun ac hA => ?_
  refine x_len Tryd.underlying24 (hS.rd 0 rfl).2.1 hA (fun ac hA => ?_) rfl rfl rfl rfl rfl
  refine x_m hA rfl fun ac hA => ?_
  refine x_len Tryd.underlying24 (hS.rd 1 rfl).2.1 hA (fun ac hA => ?_) rfl rfl rfl rfl rfl
  refine x_v hA (r_ltI rfl (hA.ev rfl) (hA.ev rfl)) rfl fun ac hA => ?_
  refine wn (hK800 _ _ ?_)
  refine c_if hA rfl (fun hb801 => ?_) fun hb801 => ?_
  ·replace hF := ift hb801 hF
   refine wp_reg ?_
   refine x_m hA rfl fun ac hA => ?_
   refine x_m hA rfl fun ac hA => ?_
   refine wpList_nil ?_
   replace hS := hS.drop 1
   exact hb2 y795 hF B797 m798 d799 ac w (hA.sub _ rfl) hS
  replace hF := iff' hb801 hF
  refine wp_skip ?_
  replace hS := hS.drop 0
  exact hb2 l688 hF A689 n690 c691 ac w (hA.sub _ rfl) hS
 replace hF := iff' hb755 hF
 refine wp_exit ?_
 cases hF
 exact hx751_0 l688 (T751_ _ rfl) A689 n690 c691 ac w (hA.sub _ rfl) hS
end Go.Proofs.YteodeedejjcmgaaDoor.M
namespace Go.Proofs.YteodeedejjcmgaaDoor.M
open Go Go.RowKit Go.Proofs.YteodeedejjcmgaaDoor.E
set_option linter.unusedVariables false
set_option linter.unusedSimpArgs false
noncomputable def column_Uint_b1 (l318 : (List Int)) (x322 : Int) : Option ((List Int)) :=
  ltt (IntKind.u8.wrap x322) fun x324 => (chk (l318.length + [x324].length ≤ 140737488355328 / 1) (some (l318 ++ [x324])))
noncomputable def column_Uint_x1_0 (l378 : (List Int)) (x382 : Int) : Option ((List Int)) :=
  column_Uint_b1 l378 x382
noncomputable def column_Uint_l1 (l352 : (List Int)) (x356 : Int) : Option (((List Int) × Int) ⊕ (((List Int) × Int))) :=
  if (decide (128 ≤ x356)) = true then (ltt (IntKind.u8.wrap x356) fun x389 => (ltt (ior .u8 x389 128) fun x391 => (chk (l352.length + [x391].length ≤ 140737488355328 / 1) (ltt (ishr .u64 x356 7) fun x398 => (some (.inl (l352 ++ [x391], x398))))))) else (some (.inr (l352, x356)))
noncomputable def column_Uint (a0 : (List Int)) (a1 : Int) : Option ((List Int)) :=
  (loop (fun s => column_Uint_l1 s.1 s.2) (a0, a1)).bind fun t => column_Uint_x1_0 t.1 t.2
noncomputable def column_Int (a0 : (List Int)) (a1 : Int) : Option ((List Int)) :=
  ltt (ishl .i64 a1 1) fun x103 => (ltt (IntKind.u64.wrap x103) fun x105 => (ltt (ishr .i64 a1 63) fun x107 => (ltt (IntKind.u64.wrap x107) fun x109 => (ltt (ixor .u64 x105 x109) fun x111 => ((column_Uint a0 x111).bind fun y113 => (some y113))))))
noncomputable def column_Text (a0 : (List Int)) (a1 : (List UInt8)) : Option ((List Int)) :=
  ltt (IntKind.u64.wrap (a1.length : Int)) fun x103 => ((column_Uint a0 x103).bind fun y105 => (chk (y105.length + a1.length ≤ 140737488355328 / 1) (some (y105 ++ stb a1))))
noncomputable def slices_Min_int64_int64_b1 (x232 : Int) : Option (Int) :=
  some x232
noncomputable def slices_Min_int64_int64_x1_0 (x260 : Int) : Option (Int) :=
  slices_Min_int64_int64_b1 x260
noncomputable def slices_Min_int64_int64_l1 (a0 : (List Int)) (x246 : Int) (x247 : Int) : Option ((Int × Int) ⊕ ((Int))) :=
  if (decide (x247 < (a0.length : Int))) = true then ((at_ a0 x247).bind fun x267 => (ltt (IntKind.i64.wrap (x247 + 1)) fun x270 => (some (.inl (if x267 < x246 then x267 else x246, x270))))) else (some (.inr (x246)))
noncomputable def slices_Min_int64_int64 (a0 : (List Int)) : Option (Int) :=
  if (decide ((a0.length : Int) < 1)) = true then (none) else ((at_ a0 0).bind fun x108 => ((loop (fun s => slices_Min_int64_int64_l1 a0 s.1 s.2) (x108, 1)).bind fun t => slices_Min_int64_int64_x1_0 t))
noncomputable def bits_Len64_j3 (x128 : Int) (x129 : Int) : Option (Int) :=
  ltt (IntKind.u8.wrap x128) fun x131 => ((at_ ([0, 1, 2, 2, 3, 3, 3, 3, 4, 4, 4, 4, 4, 4, 4, 4, 5, 5, 5, 5, 5, 5, 5, 5, 5, 5, 5, 5, 5, 5, 5, 5, 6, 6, 6, 6, 6, 6, 6, 6, 6, 6, 6, 6, 6, 6, 6, 6, 6, 6, 6, 6, 6, 6, 6, 6, 6, 6, 6, 6, 6, 6, 6, 6, 7, 7, 7, 7, 7, 7, 7, 7, 7, 7, 7, 7, 7, 7, 7, 7, 7, 7, 7, 7, 7, 7, 7, 7, 7, 7, 7, 7, 7, 7, 7, 7, 7, 7, 7, 7, 7, 7, 7, 7, 7, 7, 7, 7, 7, 7, 7, 7, 7, 7, 7, 7, 7, 7, 7, 7, 7, 7, 7, 7, 7, 7, 7, 7, 8, 8, 8, 8, 8, 8, 8, 8, 8, 8, 8, 8, 8, 8, 8, 8, 8, 8, 8, 8, 8, 8, 8, 8, 8, 8, 8, 8, 8, 8, 8, 8, 8, 8, 8, 8, 8, 8, 8, 8, 8, 8, 8, 8, 8, 8, 8, 8, 8, 8, 8, 8, 8, 8, 8, 8, 8, 8, 8, 8, 8, 8, 8, 8, 8, 8, 8, 8, 8, 8, 8, 8, 8, 8, 8, 8, 8, 8, 8, 8, 8, 8, 8, 8, 8, 8, 8, 8, 8, 8, 8, 8, 8, 8, 8, 8, 8, 8, 8, 8, 8, 8, 8, 8, 8, 8, 8, 8, 8, 8, 8, 8, 8, 8, 8, 8, 8, 8, 8, 8, 8, 8, 8, 8, 8, 8, 8, 8] : List UInt8) x131).bind fun x133 => (ltt (IntKind.i64.wrap (x133.toNat : Int)) fun x135 => (ltt (IntKind.i64.wrap (x129 + x135)) fun x137 => (some x137))))
noncomputable def bits_Len64_j2 (x118 : Int) (x119 : Int) : Option (Int) :=
  if (decide (256 ≤ x118)) = true then (ltt (ishr .u64 x118 8) fun x142 => (ltt (IntKind.i64.wrap (x119 + 8)) fun x144 => (bits_Len64_j3 x142 x144))) else (bits_Len64_j3 x118 x119)
noncomputable def bits_Len64_j1 (x108 : Int) (x109 : Int) : Option (Int) :=
  if (decide (65536 ≤ x108)) = true then (ltt (ishr .u64 x108 16) fun x149 => (ltt (IntKind.i64.wrap (x109 + 16)) fun x151 => (bits_Len64_j2 x149 x151))) else (bits_Len64_j2 x108 x109)
noncomputable def bits_Len64 (a0 : Int) : Option (Int) :=
  if (decide (4294967296 ≤ a0)) = true then (ltt (ishr .u64 a0 32) fun x156 => (bits_Len64_j1 x156 32)) else (bits_Len64_j1 a0 0)
noncomputable def column_pack_b2 (y296 : ((List Int))) (x301 : Int) (l8646 : (List Int)) : Option ((List Int)) :=
  chk ((y296 ++ [x301]).length + l8646.length ≤ 140737488355328 / 1) (some ((y296 ++ [x301]) ++ l8646))
noncomputable def column_pack_x1_2 (y296 : ((List Int))) (x301 : Int) (l10485 : (List Int)) : Option ((List Int)) :=
  column_pack_b2 y296 x301 l10485
noncomputable def column_pack_b3 (x9533 : Int) (x11317 : Int) (l11318 : (List Int)) : Option ((Int × (List Int) × Int) ⊕ (((List Int)))) :=
  ltt (IntKind.i64.wrap (x9533 + 1)) fun x11319 => (some (.inl (x11317, l11318, x11319)))
noncomputable def column_pack_x2_4 (x9533 : Int) (x11397 : Int) (l11398 : (List Int)) : Option ((Int × (List Int) × Int) ⊕ (((List Int)))) :=
  column_pack_b3 x9533 x11397 l11398
noncomputable def column_pack_l2 (y107 : (Int)) (x294 : Int) (x11199 : Int) (x11357 : Int) (l11358 : (List Int)) (x11359 : Int) : Option ((Int × (List Int) × Int) ⊕ ((Int × (List Int)))) :=
  if (decide (x11359 < x294)) = true then (ltt (IntKind.i64.wrap (x11357.tdiv 8)) fun x11407 => ((at_ l11358 x11407).bind fun x11409 => (ltt (IntKind.i64.wrap (x11199 - y107)) fun x11412 => (ltt (IntKind.u64.wrap x11412) fun x11414 => (chk (0 ≤ x11359) (ltt (ishr .u64 x11414 x11359) fun x11417 => (ltt (iand .u64 x11417 1) fun x11419 => (ltt (IntKind.u8.wrap x11419) fun x11421 => (ltt (x11357.tmod 8) fun x11423 => (chk (0 ≤ x11423) (ltt (ishl .u8 x11421 x11423) fun x11426 => (ltt (ior .u8 x11409 x11426) fun x11428 => (ltt (IntKind.i64.wrap (x11357 + 1)) fun x11430 => (ltt (IntKind.i64.wrap (x11359 + 1)) fun x11432 => (some (.inl (x11430, l11358.set x11407.toNat x11428, x11432))))))))))))))))) else (some (.inr (x11357, l11358)))
noncomputable def column_pack_l1 (a1 : (List Int)) (y107 : (Int)) (x294 : Int) (x9531 : Int) (l9532 : (List Int)) (x9533 : Int) : Option ((Int × (List Int) × Int) ⊕ (((List Int)))) :=
  if (decide (x9533 < (a1.length : Int))) = true then ((at_ a1 x9533).bind fun x11199 => ((loop (fun s => column_pack_l2 y107 x294 x11199 s.1 s.2.1 s.2.2) (x9531, l9532, 0)).bind fun t => column_pack_x2_4 x9533 t.1 t.2)) else (some (.inr (l9532)))
noncomputable def column_pack_b1 (a0 : (List Int)) (a1 : (List Int)) (y107 : (Int)) (x294 : Int) : Option ((List Int)) :=
  (column_Int a0 y107).bind fun y296 => (ltt (IntKind.u8.wrap x294) fun x301 => (chk (y296.length + [x301].length ≤ 140737488355328 / 1) (ltt (IntKind.i64.wrap ((a1.length : Int) * x294)) fun x310 => (ltt (IntKind.i64.wrap (x310 + 7)) fun x312 => (ltt (IntKind.i64.wrap (x312.tdiv 8)) fun x314 => (chk (0 ≤ x314 ∧ (1 : Int) * x314 ≤ 140737488355328) ((loop (fun s => column_pack_l1 a1 y107 x294 s.1 s.2.1 s.2.2) (0, List.replicate x314.toNat (0 : Int), 0)).bind fun t => column_pack_x1_2 y296 x301 t)))))))
noncomputable def column_pack_x3_0 (a0 : (List Int)) (a1 : (List Int)) (y107 : (Int)) (x11474 : Int) : Option ((List Int)) :=
  column_pack_b1 a0 a1 y107 x11474
noncomputable def column_pack_l3 (a1 : (List Int)) (y107 : (Int)) (x11453 : Int) (x11454 : Int) : Option ((Int × Int) ⊕ ((Int))) :=
  if (decide (x11454 < (a1.length : Int))) = true then ((at_ a1 x11454).bind fun x11482 => (ltt (IntKind.i64.wrap (x11482 - y107)) fun x11485 => (ltt (IntKind.u64.wrap x11485) fun x11487 => ((bits_Len64 x11487).bind fun y11489 => (ltt (IntKind.i64.wrap (x11454 + 1)) fun x11491 => (some (.inl (if x11453 < y11489 then y11489 else x11453, x11491)))))))) else (some (.inr (x11453)))
noncomputable def column_pack (a0 : (List Int)) (a1 : (List Int)) : Option ((List Int)) :=
  if ((a1.length : Int) == 0) = true then (some a0) else ((slices_Min_int64_int64 a1).bind fun y107 => ((loop (fun s => column_pack_l3 a1 y107 s.1 s.2) (0, 0)).bind fun t => column_pack_x3_0 a0 a1 y107 t))
noncomputable def column_As_b1 (l7786 : (List Int)) : Option ((List Int)) :=
  some l7786
noncomputable def column_As_b2 (l7863 : (List Int)) : Option ((List Int)) :=
  column_As_b1 l7863
noncomputable def column_As_x1_1 (l7914 : (List Int)) : Option ((List Int)) :=
  column_As_b2 l7914
noncomputable def column_As_l1 (a1 : (List Int)) (l7888 : (List Int)) (x7892 : Int) : Option (((List Int) × Int) ⊕ (((List Int)))) :=
  if (decide (x7892 < (a1.length : Int))) = true then ((at_ a1 x7892).bind fun x7925 => ((column_Int l7888 x7925).bind fun y7928 => (ltt (IntKind.i64.wrap (x7892 + 1)) fun x7933 => (some (.inl (y7928, x7933)))))) else (some (.inr (l7888)))
noncomputable def column_As_b3 (l8020 : (List Int)) : Option ((List Int)) :=
  column_As_b1 l8020
noncomputable def column_As_x2_3 (l8080 : (List Int)) : Option ((List Int)) :=
  column_As_b3 l8080
noncomputable def column_As_l2 (a1 : (List Int)) (l8049 : (List Int)) (x8053 : Int) (x8054 : Int) : Option (((List Int) × Int × Int) ⊕ (((List Int)))) :=
  if (decide (x8054 < (a1.length : Int))) = true then ((at_ a1 x8054).bind fun x8091 => (ltt (IntKind.i64.wrap (x8091 - x8053)) fun x8095 => ((column_Int l8049 x8095).bind fun y8097 => (ltt (IntKind.i64.wrap (x8054 + 1)) fun x8102 => (some (.inl (y8097, x8091, x8102))))))) else (some (.inr (l8049)))
noncomputable def column_As_b4 (l9220 : (List Int)) : Option ((List Int)) :=
  column_As_b1 l9220
noncomputable def column_As_x3_5 (l9967 : (List Int)) : Option ((List Int)) :=
  column_As_b4 l9967
noncomputable def column_As_b5 (a1 : (List Int)) (l9593 : (List Int)) (x9597 : Int) (x10231 : Int) : Option (((List Int) × Int) ⊕ (((List Int)))) :=
  (at_ a1 x9597).bind fun x10233 => ((column_Int l9593 x10233).bind fun y10236 => (ltt (IntKind.i64.wrap (x10231 - 1)) fun x10241 => (ltt (IntKind.u64.wrap x10241) fun x10243 => ((column_Uint y10236 x10243).bind fun y10245 => (ltt (IntKind.i64.wrap (x9597 + x10231)) fun x10250 => (some (.inl (y10245, x10250))))))))
noncomputable def column_As_x4_7 (a1 : (List Int)) (l9593 : (List Int)) (x9597 : Int) (x10307 : Int) : Option (((List Int) × Int) ⊕ (((List Int)))) :=
  column_As_b5 a1 l9593 x9597 x10307
noncomputable def column_As_j1 (x10279 : Int) (b10320 : Bool) : Option ((Int) ⊕ ((Int))) :=
  if b10320 = true then (ltt (IntKind.i64.wrap (x10279 + 1)) fun x10323 => (some (.inl (x10323)))) else (some (.inr (x10279)))
noncomputable def column_As_l4 (a1 : (List Int)) (x9597 : Int) (x10279 : Int) : Option ((Int) ⊕ ((Int))) :=
  ltt (IntKind.i64.wrap (x9597 + x10279)) fun x10325 => (if (decide (x10325 < (a1.length : Int))) = true then ((at_ a1 x10325).bind fun x10328 => ((at_ a1 x9597).bind fun x10331 => (column_As_j1 x10279 (x10328 == x10331)))) else (column_As_j1 x10279 false))
noncomputable def column_As_l3 (a1 : (List Int)) (l9593 : (List Int)) (x9597 : Int) : Option (((List Int) × Int) ⊕ (((List Int)))) :=
  if (decide (x9597 < (a1.length : Int))) = true then ((loop (fun s => column_As_l4 a1 x9597 s) (1)).bind fun t => column_As_x4_7 a1 l9593 x9597 t) else (some (.inr (l9593)))
noncomputable def column_As (a0 : Int) (a1 : (List Int)) : Option ((List Int)) :=
  ltt (IntKind.u64.wrap (a1.length : Int)) fun x104 => ((column_Uint [a0] x104).bind fun y106 => (if (a0 == 0) = true then ((loop (fun s => column_As_l1 a1 s.1 s.2) (y106, 0)).bind fun t => column_As_x1_1 t) else (if (a0 == 1) = true then ((loop (fun s => column_As_l2 a1 s.1 s.2.1 s.2.2) (y106, 0, 0)).bind fun t => column_As_x2_3 t) else (if (a0 == 2) = true then ((loop (fun s => column_As_l3 a1 s.1 s.2) (y106, 0)).bind fun t => column_As_x3_5 t) else (if (a0 == 3) = true then ((column_pack y106 a1).bind fun y10336 => (column_As_b1 y10336)) else (column_As_b1 y106))))))
noncomputable def column_Ints_b1 (l628 : (List Int)) : Option ((List Int)) :=
  some l628
noncomputable def column_Ints_x1_0 (l748 : (List Int)) : Option ((List Int)) :=
  column_Ints_b1 l748
noncomputable def column_Ints_b2 (x692 : Int) (l788 : (List Int)) : Option (((List Int) × Int) ⊕ (((List Int)))) :=
  ltt (IntKind.u8.wrap (x692 + 1)) fun x792 => (some (.inl (l788, x792)))
noncomputable def column_Ints_l1 (a0 : (List Int)) (l688 : (List Int)) (x692 : Int) : Option (((List Int) × Int) ⊕ (((List Int)))) :=
  if (decide (x692 ≤ 3)) = true then ((column_As x692 a0).bind fun y795 => (if (decide ((y795.length : Int) < (l688.length : Int))) = true then (column_Ints_b2 x692 y795) else (column_Ints_b2 x692 l688))) else (some (.inr (l688)))
noncomputable def column_Ints (a0 : (List Int)) : Option ((List Int)) :=
  (column_As 0 a0).bind fun y103 => ((loop (fun s => column_Ints_l1 a0 s.1 s.2) (y103, 1)).bind fun t => column_Ints_x1_0 t)
end Go.Proofs.YteodeedejjcmgaaDoor.M
namespace Go.Proofs.YteodeedejjcmgaaDoor.M
open Go Go.RowKit Go.Proofs.YteodeedejjcmgaaDoor.E
set_option linter.unusedVariables false
set_option maxRecDepth 100000
set_option maxHeartbeats 4000000
set_option linter.unusedSimpArgs false
theorem F_column_Uint {r : World} {L : List HP} {w : World} (a0 : (List Int)) (a1 : Int) (A0 : Option Addr) (n0 : Nat) (c0 : Nat) {y : ((List Int))} (hF : column_Uint a0 a1 = some y) (hS : SH r (own (kI .u8) 5 A0 n0 c0 a0 :: L) w) :
  Ret Tryd.prog 48 #[.slice A0 n0 c0, .int .u64 a1] w fun v w' => ∃ (B0 : Option Addr) (m0 : Nat) (d0 : Nat), v = .slice B0 m0 d0 ∧ SH r (own (kI .u8) 5 B0 m0 d0 y :: L) w' := by
 refine enter Tryd.func48 rfl Tryd.ntmps48 [(0, .slice A0 n0 c0), (1, .int .u64 a1)] rfl (by simp) ?_
 intro ac hA Qf hQ hQn
 unfold column_Uint at hF
 refine ws fun K101 hK101 => ?_
 refine x_m hA rfl fun ac hA => ?_
 refine wn (hK101 _ _ ?_)
 refine wp_seq_k fun K102 hK102 => ?_
 refine wp_block_k fun Kx248 hKx248 => ?_
 have hb1 : ∀ (l318 : (List Int)) (x322 : Int), column_Uint_b1 l318 x322 = some y → ∀ (A319 : Option Addr) (n320 : Nat) (c321 : Nat) (ac : Act) (w : World), FR 20 [] ac [(0, .slice A319 n320 c321), (1, .int .u64 x322)] → SH r (own (kI .u8) 5 A319 n320 c321 l318 :: L) w → Kx248 ac w := by
  intro l318 x322 hF A319 n320 c321 ac w hA hS
  unfold column_Uint_b1 at hF
  refine hKx248 _ _ ?_
  refine hK102 _ _ ?_
  refine ws fun K323 hK323 => ?_
  refine x_m hA rfl fun ac hA => ?_
  refine x_m hA rfl fun ac hA => ?_
  obtain ⟨x324, h325, hF⟩ := ltt_ hF
  refine x_v (v := .int .u8 x324) hA (rv_i h325 (r_convI Tryd.underlying31 Tryd.underlying5 rfl (hA.ev rfl))) rfl fun ac hA => ?_
  refine x_bsl (d := (kI .u8)) (e := 5) (ps := #[(0, .int .u8 x324)]) (cells := [.int .u8 x324]) (xs := [x324]) (fun w => by kernel_rfl) rfl ⟨[.int .u8 x324], _, rfl, rfl, rfl⟩ hA hS (fun g326 ac w hS hA => ?_) rfl rfl rfl rfl rfl rfl
  obtain ⟨h327, hF⟩ := chk_some hF
  have hr := hS.rd 0 rfl
  refine x_app 1 inf5 Tryd.underlying24 hA hS hr.1 hr.2.1 h327 rfl (fun A328 n329 c330 ac w hS hA => ?_) rfl rfl rfl rfl rfl rfl rfl rfl rfl
  refine x_m hA rfl fun ac hA => ?_
  refine wn (hK323 _ _ ?_)
  refine wp_ret ?_
  replace hS := hS.drop 1
  cases hF
  refine hQ _ _ ?_
  refine lv Tryd.results48 hA rfl ?_
  exact ⟨A328, n329, c330, rfl, hS⟩
 obtain ⟨t382, hl382, hF⟩ := bnd hF
 have hx382_0 : ∀ (l378 : (List Int)) (x382 : Int), (l378, x382) = t382 → ∀ (A379 : Option Addr) (n380 : Nat) (c381 : Nat) (ac : Act) (w : World), FR 20 [] ac [(0, .slice A379 n380 c381), (1, .int .u64 x382)] → SH r (own (kI .u8) 5 A379 n380 c381 l378 :: L) w → Kx248 ac w := by
  intro l378 x382 ht A379 n380 c381 ac w hA hS
  subst ht
  replace hF : column_Uint_x1_0 l378 x382 = some y := hF
  unfold column_Uint_x1_0 at hF
  exact hb1 l378 x382 hF A379 n380 c381 ac w (hA.sub _ rfl) hS
 refine wp_loop_fn hl382 (fun s ac w => ∃ (A353 : Option Addr) (n354 : Nat) (c355 : Nat), FR 20 [] ac [(0, .slice A353 n354 c355), (1, .int .u64 s.2)] ∧ SH r (own (kI .u8) 5 A353 n354 c355 s.1 :: L) w) ⟨A0, n0, c0, hA.sub _ rfl, hS⟩ ?_
 intro N382 s382 o382 hF N382_ T382_ ac w hLab
 obtain ⟨l352, x356⟩ := s382
 replace hF : column_Uint_l1 l352 x356 = some o382 := hF
 unfold column_Uint_l1 at hF
 try dsimp only at hLab
 obtain ⟨A353, n354, c355, hA, hS⟩ := hLab
 refine wp_seq_k fun K384 hK384 => ?_
 refine ws fun K385 hK385 => ?_
 refine x_m hA rfl fun ac hA => ?_
 refine x_v hA (r_geI rfl (hA.ev rfl) (hA.ev rfl)) rfl fun ac hA => ?_
 refine wn (hK385 _ _ ?_)
 refine c_if hA rfl (fun hb386 => ?_) fun hb386 => ?_
 ·replace hF := ift hb386 hF
  refine wp_skip ?_
  refine hK384 _ _ ?_
  refine wp_seq_k fun K387 hK387 => ?_
  refine wp_block_k fun Kx388 hKx388 => ?_
  refine wp_reg ?_
  refine x_m hA rfl fun ac hA => ?_
  refine x_m hA rfl fun ac hA => ?_
  obtain ⟨x389, h390, hF⟩ := ltt_ hF
  refine x_v (v := .int .u8 x389) hA (rv_i h390 (r_convI Tryd.underlying31 Tryd.underlying5 rfl (hA.ev rfl))) rfl fun ac hA => ?_
  obtain ⟨x391, h392, hF⟩ := ltt_ hF
  refine x_v (v := .int .u8 x391) hA (rv_i h392 (r_or rfl (hA.ev rfl) (hA.ev rfl))) rfl fun ac hA => ?_
  refine x_bsl (d := (kI .u8)) (e := 5) (ps := #[(0, .int .u8 x391)]) (cells := [.int .u8 x391]) (xs := [x391]) (fun w => by kernel_rfl) rfl ⟨[.int .u8 x391], _, rfl, rfl, rfl⟩ hA hS (fun g393 ac w hS hA => ?_) rfl rfl rfl rfl rfl rfl
  obtain ⟨h394, hF⟩ := chk_some hF
  have hr := hS.rd 0 rfl
  refine x_app 1 inf5 Tryd.underlying24 hA hS hr.1 hr.2.1 h394 rfl (fun A395 n396 c397 ac w hS hA => ?_) rfl rfl rfl rfl rfl rfl rfl rfl rfl
  refine x_m hA rfl fun ac hA => ?_
  refine wpList_nil ?_
  refine hKx388 _ _ ?_
  refine hK387 _ _ ?_
  refine wp_reg ?_
  refine x_m hA rfl fun ac hA => ?_
  obtain ⟨x398, h399, hF⟩ := ltt_ hF
  refine x_v (v := .int .u64 x398) hA (rv_i h399 (r_shr rfl (hA.ev rfl) (hA.ev rfl) (by decide))) rfl fun ac hA => ?_
  refine x_m hA rfl fun ac hA => ?_
  refine wpList_nil ?_
  replace hS := hS.drop 1
  cases hF
  exact ⟨_, N382_ _ rfl, A395, n396, c397, hA.sub _ rfl, hS⟩
 replace hF := iff' hb386 hF
 refine wp_exit ?_
 cases hF
 exact hx382_0 l352 x356 (T382_ _ rfl) A353 n354 c355 ac w (hA.sub _ rfl) hS
theorem F_column_Int {r : World} {L : List HP} {w : World} (a0 : (List Int)) (a1 : Int) (A0 : Option Addr) (n0 : Nat) (c0 : Nat) {y : ((List Int))} (hF : column_Int a0 a1 = some y) (hS : SH r (own (kI .u8) 5 A0 n0 c0 a0 :: L) w) :
  Ret Tryd.prog 28 #[.slice A0 n0 c0, .int .i64 a1] w fun v w' => ∃ (B0 : Option Addr) (m0 : Nat) (d0 : Nat), v = .slice B0 m0 d0 ∧ SH r (own (kI .u8) 5 B0 m0 d0 y :: L) w' := by
 refine enter Tryd.func28 rfl Tryd.ntmps28 [(0, .slice A0 n0 c0), (1, .int .i64 a1)] rfl (by simp) ?_
 intro ac hA Qf hQ hQn
 unfold column_Int at hF
 refine ws fun K101 hK101 => ?_
 refine x_m hA rfl fun ac hA => ?_
 refine wn (hK101 _ _ ?_)
 refine ws fun K102 hK102 => ?_
 refine x_m hA rfl fun ac hA => ?_
 refine x_m hA rfl fun ac hA => ?_
 obtain ⟨x103, h104, hF⟩ := ltt_ hF
 refine x_v (v := .int .i64 x103) hA (rv_i h104 (r_shl rfl (hA.ev rfl) (hA.ev rfl) (by decide))) rfl fun ac hA => ?_
 obtain ⟨x105, h106, hF⟩ := ltt_ hF
 refine x_v (v := .int .u64 x105) hA (rv_i h106 (r_convI Tryd.underlying2 Tryd.underlying31 rfl (hA.ev rfl))) rfl fun ac hA => ?_
 refine x_m hA rfl fun ac hA => ?_
 obtain ⟨x107, h108, hF⟩ := ltt_ hF
 refine x_v (v := .int .i64 x107) hA (rv_i h108 (r_shr rfl (hA.ev rfl) (hA.ev rfl) (by decide))) rfl fun ac hA => ?_
 obtain ⟨x109, h110, hF⟩ := ltt_ hF
 refine x_v (v := .int .u64 x109) hA (rv_i h110 (r_convI Tryd.underlying2 Tryd.underlying31 rfl (hA.ev rfl))) rfl fun ac hA => ?_
 obtain ⟨x111, h112, hF⟩ := ltt_ hF
 refine x_v (v := .int .u64 x111) hA (rv_i h112 (r_xor rfl (hA.ev rfl) (hA.ev rfl))) rfl fun ac hA => ?_
 obtain ⟨y113, h114, hF⟩ := bnd hF
 refine x_call en48 hA (F_column_Uint (L := L) a0 x111 A0 n0 c0 h114 hS) (fun v ac w hR hA => ?_) rfl rfl rfl rfl rfl
 obtain ⟨B115, m116, d117, rfl, hS⟩ := hR
 refine x_m hA rfl fun ac hA => ?_
 refine wn (hK102 _ _ ?_)
 refine wp_ret ?_
 cases hF
 refine hQ _ _ ?_
 refine lv Tryd.results28 hA rfl ?_
 exact ⟨B115, m116, d117, rfl, hS⟩
theorem F_column_Text {r : World} {L : List HP} {w : World} (a0 : (List Int)) (a1 : (List UInt8)) (A0 : Option Addr) (n0 : Nat) (c0 : Nat) {y : ((List Int))} (hF : column_Text a0 a1 = some y) (hS : SH r (own (kI .u8) 5 A0 n0 c0 a0 :: L) w) :
  Ret Tryd.prog 29 #[.slice A0 n0 c0, str a1] w fun v w' => ∃ (B0 : Option Addr) (m0 : Nat) (d0 : Nat), v = .slice B0 m0 d0 ∧ SH r (own (kI .u8) 5 B0 m0 d0 y :: L) w' := by
 refine enter Tryd.func29 rfl Tryd.ntmps29 [(0, .slice A0 n0 c0), (1, str a1)] rfl (by simp) ?_
 intro ac hA Qf hQ hQn
 unfold column_Text at hF
 refine ws fun K101 hK101 => ?_
 refine x_m hA rfl fun ac hA => ?_
 refine wn (hK101 _ _ ?_)
 refine ws fun K102 hK102 => ?_
 refine x_m hA rfl fun ac hA => ?_
 refine x_m hA rfl fun ac hA => ?_
 refine x_v hA (r_lenS Tryd.underlying9 rfl (hA.ev rfl)) rfl fun ac hA => ?_
 obtain ⟨x103, h104, hF⟩ := ltt_ hF
 refine x_v (v := .int .u64 x103) hA (rv_i h104 (r_convI Tryd.underlying3 Tryd.underlying31 rfl (hA.ev rfl))) rfl fun ac hA => ?_
 obtain ⟨y105, h106, hF⟩ := bnd hF
 refine x_call en48 hA (F_column_Uint (L := L) a0 x103 A0 n0 c0 h106 hS) (fun v ac w hR hA => ?_) rfl rfl rfl rfl rfl
 obtain ⟨B107, m108, d109, rfl, hS⟩ := hR
 refine x_m hA rfl fun ac hA => ?_
 obtain ⟨h110, hF⟩ := chk_some hF
 refine x_appS 0 inf5 Tryd.underlying24 Tryd.underlying9 hA hS h110 rfl (fun A111 n112 c113 ac w hS hA => ?_) rfl rfl rfl rfl rfl rfl
 refine x_m hA rfl fun ac hA => ?_
 refine wn (hK102 _ _ ?_)
 refine wp_ret ?_
 cases hF
 refine hQ _ _ ?_
 refine lv Tryd.results29 hA rfl ?_
 exact ⟨A111, n112, c113, rfl, hS⟩
theorem F_slices_Min_int64_int64 {r : World} {L : List HP} {w : World} (a0 : (List Int)) (A0 : Option Addr) (n0 : Nat) (c0 : Nat) {y : (Int)} (hF : slices_Min_int64_int64 a0 = some y) (ha0 : RdL L (kI .i64) A0 n0 c0 a0) (hS : SH r (L) w) :
  Ret Tryd.prog 96 #[.slice A0 n0 c0] w fun v w' => v = .int .i64 y ∧ SH r (L) w' := by
 refine enter Tryd.func96 rfl Tryd.ntmps96 [(0, .slice A0 n0 c0)] rfl (by simp) ?_
 intro ac hA Qf hQ hQn
 unfold slices_Min_int64_int64 at hF
 refine ws fun K101 hK101 => ?_
 refine x_m hA rfl fun ac hA => ?_
 refine wn (hK101 _ _ ?_)
 refine wp_seq_k fun K102 hK102 => ?_
 refine ws fun K105 hK105 => ?_
 refine x_m hA rfl fun ac hA => ?_
 refine x_len Tryd.underlying90 (hS.rdl 0 ha0 rfl).2.1 hA (fun ac hA => ?_) rfl rfl rfl rfl rfl
 refine x_v hA (r_ltI rfl (hA.ev rfl) (hA.ev rfl)) rfl fun ac hA => ?_
 refine wn (hK105 _ _ ?_)
 refine c_if hA rfl (fun hb106 => ?_) fun hb106 => ?_
 ·replace hF := ift hb106 hF
  refine wp_reg ?_
  refine x_v hA (r_makeI Tryd.underlying9 rfl rfl (hA.ev rfl)) rfl fun ac hA => ?_
  cases hF
 replace hF := iff' hb106 hF
 refine wp_skip ?_
 refine hK102 _ _ ?_
 refine ws fun K107 hK107 => ?_
 refine x_m hA rfl fun ac hA => ?_
 obtain ⟨x108, h109, hF⟩ := bnd hF
 refine x_ia Tryd.underlying90 sz2 (hS.rdl 0 ha0 rfl) h109 hA (fun ac hA => ?_) rfl rfl rfl rfl rfl rfl
 obtain ⟨cs, hV, hc110⟩ := el (hS.rdl 0 ha0 rfl) h109
 obtain rfl := hV
 refine x_ld Tryd.underlying2 (hc110 0 _ rfl) hA (fun ac hA => ?_) rfl rfl rfl rfl rfl rfl
 refine x_m hA rfl fun ac hA => ?_
 refine wn (hK107 _ _ ?_)
 refine wp_seq_k fun K111 hK111 => ?_
 refine ws fun K192 hK192 => ?_
 refine x_m hA rfl fun ac hA => ?_
 refine wn (hK192 _ _ ?_)
 refine wp_block_k fun Kx193 hKx193 => ?_
 have hb1 : ∀ (x232 : Int), slices_Min_int64_int64_b1 x232 = some y → ∀ (ac : Act) (w : World), FR 25 [] ac [(3, .int .i64 x232)] → SH r (L) w → Kx193 ac w := by
  intro x232 hF ac w hA hS
  unfold slices_Min_int64_int64_b1 at hF
  refine hKx193 _ _ ?_
  refine hK111 _ _ ?_
  refine ws fun K233 hK233 => ?_
  refine x_m hA rfl fun ac hA => ?_
  refine x_m hA rfl fun ac hA => ?_
  refine wn (hK233 _ _ ?_)
  refine wp_ret ?_
  cases hF
  refine hQ _ _ ?_
  refine lv Tryd.results96 hA rfl ?_
  exact ⟨rfl, hS⟩
 obtain ⟨t260, hl260, hF⟩ := bnd hF
 have hx260_0 : ∀ (x260 : Int), (x260) = t260 → ∀ (ac : Act) (w : World), FR 25 [] ac [(3, .int .i64 x260)] → SH r (L) w → Kx193 ac w := by
  intro x260 ht ac w hA hS
  subst ht
  replace hF : slices_Min_int64_int64_x1_0 x260 = some y := hF
  unfold slices_Min_int64_int64_x1_0 at hF
  exact hb1 x260 hF ac w (hA.sub _ rfl) hS
 refine wp_loop_fn hl260 (fun s ac w => FR 25 [] ac [(0, .slice A0 n0 c0), (3, .int .i64 s.1), (4, .int .i64 s.2)] ∧ SH r (L) w) ⟨hA.sub _ rfl, hS⟩ ?_
 intro N260 s260 o260 hF N260_ T260_ ac w hLab
 obtain ⟨x246, x247⟩ := s260
 replace hF : slices_Min_int64_int64_l1 a0 x246 x247 = some o260 := hF
 unfold slices_Min_int64_int64_l1 at hF
 try dsimp only at hLab
 obtain ⟨hA, hS⟩ := hLab
 refine wp_seq_k fun K262 hK262 => ?_
 refine ws fun K263 hK263 => ?_
 refine x_m hA rfl fun ac hA => ?_
 refine x_m hA rfl fun ac hA => ?_
 refine x_len Tryd.underlying90 (hS.rdl 0 ha0 rfl).2.1 hA (fun ac hA => ?_) rfl rfl rfl rfl rfl
 refine x_v hA (r_ltI rfl (hA.ev rfl) (hA.ev rfl)) rfl fun ac hA => ?_
 refine wn (hK263 _ _ ?_)
 refine c_if hA rfl (fun hb264 => ?_) fun hb264 => ?_
 ·replace hF := ift hb264 hF
  refine wp_skip ?_
  refine hK262 _ _ ?_
  refine wp_seq_k fun K265 hK265 => ?_
  refine wp_block_k fun Kx266 hKx266 => ?_
  refine wp_reg ?_
  refine x_m hA rfl fun ac hA => ?_
  refine x_m hA rfl fun ac hA => ?_
  refine x_m hA rfl fun ac hA => ?_
  obtain ⟨x267, h268, hF⟩ := bnd hF
  refine x_ia Tryd.underlying90 sz2 (hS.rdl 0 ha0 rfl) h268 hA (fun ac hA => ?_) rfl rfl rfl rfl rfl rfl
  obtain ⟨cs, hV, hc269⟩ := el (hS.rdl 0 ha0 rfl) h268
  obtain rfl := hV
  refine x_ld Tryd.underlying2 (hc269 0 _ rfl) hA (fun ac hA => ?_) rfl rfl rfl rfl rfl rfl
  refine x_v hA (r_minI rfl (hA.ev rfl) (hA.ev rfl)) rfl fun ac hA => ?_
  refine x_m hA rfl fun ac hA => ?_
  refine wpList_nil ?_
  refine hKx266 _ _ ?_
  refine hK265 _ _ ?_
  refine wp_reg ?_
  refine x_m hA rfl fun ac hA => ?_
  obtain ⟨x270, h271, hF⟩ := ltt_ hF
  refine x_v (v := .int .i64 x270) hA (rv_i h271 (r_add rfl (hA.ev rfl) (hA.ev rfl))) rfl fun ac hA => ?_
  refine x_m hA rfl fun ac hA => ?_
  refine wpList_nil ?_
  cases hF
  exact ⟨_, N260_ _ rfl, hA.sub _ rfl, hS⟩
 replace hF := iff' hb264 hF
 refine wp_exit ?_
 cases hF
 exact hx260_0 x246 (T260_ _ rfl) ac w (hA.sub _ rfl) hS
theorem F_bits_Len64 {r : World} {L : List HP} {w : World} (a0 : Int) {y : (Int)} (hF : bits_Len64 a0 = some y) (hS : SH r (L) w) :
  Ret Tryd.prog 97 #[.int .u64 a0] w fun v w' => v = .int .i64 y ∧ SH r (L) w' := by
 refine enter Tryd.func97 rfl Tryd.ntmps97 [(0, .int .u64 a0)] rfl (by simp) ?_
 intro ac hA Qf hQ hQn
 unfold bits_Len64 at hF
 refine ws fun K101 hK101 => ?_
 refine x_m hA rfl fun ac hA => ?_
 refine wn (hK101 _ _ ?_)
 refine wp_seq_k fun K102 hK102 => ?_
 have hj1 : ∀ (x108 : Int) (x109 : Int), bits_Len64_j1 x108 x109 = some y → ∀ (ac : Act) (w : World), FR 25 [] ac [(0, .int .u64 x108), (2, .int .i64 x109)] → SH r (L) w → K102 ac w := by
  intro x108 x109 hF ac w hA hS
  unfold bits_Len64_j1 at hF
  refine hK102 _ _ ?_
  refine wp_seq_k fun K110 hK110 => ?_
  have hj2 : ∀ (x118 : Int) (x119 : Int), bits_Len64_j2 x118 x119 = some y → ∀ (ac : Act) (w : World), FR 25 [] ac [(0, .int .u64 x118), (2, .int .i64 x119)] → SH r (L) w → K110 ac w := by
   intro x118 x119 hF ac w hA hS
   unfold bits_Len64_j2 at hF
   refine hK110 _ _ ?_
   refine wp_seq_k fun K120 hK120 => ?_
   have hj3 : ∀ (x128 : Int) (x129 : Int), bits_Len64_j3 x128 x129 = some y → ∀ (ac : Act) (w : World), FR 25 [] ac [(0, .int .u64 x128), (2, .int .i64 x129)] → SH r (L) w → K120 ac w := by
    intro x128 x129 hF ac w hA hS
    unfold bits_Len64_j3 at hF
    refine hK120 _ _ ?_
    refine ws fun K130 hK130 => ?_
    refine x_m hA rfl fun ac hA => ?_
    refine x_m hA rfl fun ac hA => ?_
    obtain ⟨x131, h132, hF⟩ := ltt_ hF
    refine x_v (v := .int .u8 x131) hA (rv_i h132 (r_convI Tryd.underlying31 Tryd.underlying5 rfl (hA.ev rfl))) rfl fun ac hA => ?_
    obtain ⟨x133, h134, hF⟩ := bnd hF
    refine x_v hA (r_indexS Tryd.underlying9 rfl (hA.ev rfl) (hA.ev rfl) (at_some h134).1 (at_some h134).2.2) rfl fun ac hA => ?_
    obtain ⟨x135, h136, hF⟩ := ltt_ hF
    refine x_v (v := .int .i64 x135) hA (rv_i h136 (r_convI Tryd.underlying5 Tryd.underlying3 rfl (hA.ev rfl))) rfl fun ac hA => ?_
    obtain ⟨x137, h138, hF⟩ := ltt_ hF
    refine x_v (v := .int .i64 x137) hA (rv_i h138 (r_add rfl (hA.ev rfl) (hA.ev rfl))) rfl fun ac hA => ?_
    refine x_m hA rfl fun ac hA => ?_
    refine wn (hK130 _ _ ?_)
    refine wp_ret ?_
    cases hF
    refine hQ _ _ ?_
    refine lv Tryd.results97 hA rfl ?_
    exact ⟨rfl, hS⟩
   refine ws fun K139 hK139 => ?_
   refine x_m hA rfl fun ac hA => ?_
   refine x_v hA (r_geI rfl (hA.ev rfl) (hA.ev rfl)) rfl fun ac hA => ?_
   refine wn (hK139 _ _ ?_)
   refine c_if hA rfl (fun hb140 => ?_) fun hb140 => ?_
   ·replace hF := ift hb140 hF
    refine ws fun K141 hK141 => ?_
    refine x_m hA rfl fun ac hA => ?_
    obtain ⟨x142, h143, hF⟩ := ltt_ hF
    refine x_v (v := .int .u64 x142) hA (rv_i h143 (r_shr rfl (hA.ev rfl) (hA.ev rfl) (by decide))) rfl fun ac hA => ?_
    refine x_m hA rfl fun ac hA => ?_
    refine wn (hK141 _ _ ?_)
    refine wp_reg ?_
    refine x_m hA rfl fun ac hA => ?_
    obtain ⟨x144, h145, hF⟩ := ltt_ hF
    refine x_v (v := .int .i64 x144) hA (rv_i h145 (r_add rfl (hA.ev rfl) (hA.ev rfl))) rfl fun ac hA => ?_
    refine x_m hA rfl fun ac hA => ?_
    refine wpList_nil ?_
    exact hj3 x142 x144 hF ac w (hA.sub _ rfl) hS
   replace hF := iff' hb140 hF
   refine wp_skip ?_
   exact hj3 x118 x119 hF ac w (hA.sub _ rfl) hS
  refine ws fun K146 hK146 => ?_
  refine x_m hA rfl fun ac hA => ?_
  refine x_v hA (r_geI rfl (hA.ev rfl) (hA.ev rfl)) rfl fun ac hA => ?_
  refine wn (hK146 _ _ ?_)
  refine c_if hA rfl (fun hb147 => ?_) fun hb147 => ?_
  ·replace hF := ift hb147 hF
   refine ws fun K148 hK148 => ?_
   refine x_m hA rfl fun ac hA => ?_
   obtain ⟨x149, h150, hF⟩ := ltt_ hF
   refine x_v (v := .int .u64 x149) hA (rv_i h150 (r_shr rfl (hA.ev rfl) (hA.ev rfl) (by decide))) rfl fun ac hA => ?_
   refine x_m hA rfl fun ac hA => ?_
   refine wn (hK148 _ _ ?_)
   refine wp_reg ?_
   refine x_m hA rfl fun ac hA => ?_
   obtain ⟨x151, h152, hF⟩ := ltt_ hF
   refine x_v (v := .int .i64 x151) hA (rv_i h152 (r_add rfl (hA.ev rfl) (hA.ev rfl))) rfl fun ac hA => ?_
   refine x_m hA rfl fun ac hA => ?_
   refine wpList_nil ?_
   exact hj2 x149 x151 hF ac w (hA.sub _ rfl) hS
  replace hF := iff' hb147 hF
  refine wp_skip ?_
  exact hj2 x108 x109 hF ac w (hA.sub _ rfl) hS
 refine ws fun K153 hK153 => ?_
 refine x_m hA rfl fun ac hA => ?_
 refine x_v hA (r_geI rfl (hA.ev rfl) (hA.ev rfl)) rfl fun ac hA => ?_
 refine wn (hK153 _ _ ?_)
 refine c_if hA rfl (fun hb154 => ?_) fun hb154 => ?_
 ·replace hF := ift hb154 hF
  refine ws fun K155 hK155 => ?_
  refine x_m hA rfl fun ac hA => ?_
  obtain ⟨x156, h157, hF⟩ := ltt_ hF
  refine x_v (v := .int .u64 x156) hA (rv_i h157 (r_shr rfl (hA.ev rfl) (hA.ev rfl) (by decide))) rfl fun ac hA => ?_
  refine x_m hA rfl fun ac hA => ?_
  refine wn (hK155 _ _ ?_)
  refine wp_reg ?_
  refine x_m hA rfl fun ac hA => ?_
  refine wpList_nil ?_
  exact hj1 x156 32 hF ac w (hA.sub _ rfl) hS
 replace hF := iff' hb154 hF
 refine wp_skip ?_
 exact hj1 a0 0 hF ac w (hA.sub _ rfl) hS
theorem F_column_pack {r : World} {L : List HP} {w : World} (a0 : (List Int)) (a1 : (List Int)) (A0 : Option Addr) (n0 : Nat) (c0 : Nat) (A1 : Option Addr) (n1 : Nat) (c1 : Nat) {y : ((List Int))} (hF : column_pack a0 a1 = some y) (ha1 : RdL L (kI .i64) A1 n1 c1 a1) (hS : SH r (own (kI .u8) 5 A0 n0 c0 a0 :: L) w) :
  Ret Tryd.prog 83 #[.slice A0 n0 c0, .slice A1 n1 c1] w fun v w' => ∃ (B0 : Option Addr) (m0 : Nat) (d0 : Nat), v = .slice B0 m0 d0 ∧ SH r (own (kI .u8) 5 B0 m0 d0 y :: L) w' := by
 refine enter Tryd.func83 rfl Tryd.ntmps83 [(0, .slice A0 n0 c0), (1, .slice A1 n1 c1)] rfl (by simp) ?_
 intro ac hA Qf hQ hQn
 unfold column_pack at hF
 refine ws fun K101 hK101 => ?_
 refine x_m hA rfl fun ac hA => ?_
 refine wn (hK101 _ _ ?_)
 refine wp_seq_k fun K102 hK102 => ?_
 refine ws fun K103 hK103 => ?_
 refine x_m hA rfl fun ac hA => ?_
 refine x_len Tryd.underlying90 (hS.rdl 1 ha1 rfl).2.1 hA (fun ac hA => ?_) rfl rfl rfl rfl rfl
 refine x_v hA (r_eqI rfl (hA.ev rfl) (hA.ev rfl)) rfl fun ac hA => ?_
 refine wn (hK103 _ _ ?_)
 refine c_if hA rfl (fun hb104 => ?_) fun hb104 => ?_
 ·replace hF := ift hb104 hF
  refine ws fun K105 hK105 => ?_
  refine x_m hA rfl fun ac hA => ?_
  refine x_m hA rfl fun ac hA => ?_
  refine wn (hK105 _ _ ?_)
  refine wp_ret ?_
  cases hF
  refine hQ _ _ ?_
  refine lv Tryd.results83 hA rfl ?_
  exact ⟨A0, n0, c0, rfl, hS⟩
 replace hF := iff' hb104 hF
 refine wp_skip ?_
 refine hK102 _ _ ?_
 refine ws fun K106 hK106 => ?_
 refine x_m hA rfl fun ac hA => ?_
 obtain ⟨y107, h108, hF⟩ := bnd hF
 refine x_call en96 hA (F_slices_Min_int64_int64 (L := own (kI .u8) 5 A0 n0 c0 a0 :: L) a1 A1 n1 c1 h108 (RdL.sfx 1 rfl ha1) hS) (fun v ac w hR hA => ?_) rfl rfl rfl rfl rfl
 obtain ⟨rfl, hS⟩ := hR
 refine x_m hA rfl fun ac hA => ?_
 refine wn (hK106 _ _ ?_)
 refine ws fun K109 hK109 => ?_
 refine x_m hA rfl fun ac hA => ?_
 refine wn (hK109 _ _ ?_)
 refine wp_seq_k fun K110 hK110 => ?_
 refine ws fun K233 hK233 => ?_
 refine x_m hA rfl fun ac hA => ?_
 refine x_len Tryd.underlying90 (hS.rdl 1 ha1 rfl).2.1 hA (fun ac hA => ?_) rfl rfl rfl rfl rfl
 refine x_m hA rfl fun ac hA => ?_
 refine wn (hK233 _ _ ?_)
 refine wp_block_k fun Kx234 hKx234 => ?_
 have hb1 : ∀ (x294 : Int), column_pack_b1 a0 a1 y107 x294 = some y → ∀ (ac : Act) (w : World), FR 83 [] ac [(0, .slice A0 n0 c0), (1, .slice A1 n1 c1), (5, .int .i64 y107), (6, .int .i64 x294)] → SH r (own (kI .u8) 5 A0 n0 c0 a0 :: L) w → Kx234 ac w := by
  intro x294 hF ac w hA hS
  unfold column_pack_b1 at hF
  refine hKx234 _ _ ?_
  refine hK110 _ _ ?_
  refine ws fun K295 hK295 => ?_
  refine x_m hA rfl fun ac hA => ?_
  refine x_m hA rfl fun ac hA => ?_
  obtain ⟨y296, h297, hF⟩ := bnd hF
  refine x_call en28 hA (F_column_Int (L := L) a0 y107 A0 n0 c0 h297 hS) (fun v ac w hR hA => ?_) rfl rfl rfl rfl rfl
  obtain ⟨B298, m299, d300, rfl, hS⟩ := hR
  refine x_m hA rfl fun ac hA => ?_
  obtain ⟨x301, h302, hF⟩ := ltt_ hF
  refine x_v (v := .int .u8 x301) hA (rv_i h302 (r_convI Tryd.underlying3 Tryd.underlying5 rfl (hA.ev rfl))) rfl fun ac hA => ?_
  refine x_bsl (d := (kI .u8)) (e := 5) (ps := #[(0, .int .u8 x301)]) (cells := [.int .u8 x301]) (xs := [x301]) (fun w => by kernel_rfl) rfl ⟨[.int .u8 x301], _, rfl, rfl, rfl⟩ hA hS (fun g303 ac w hS hA => ?_) rfl rfl rfl rfl rfl rfl
  obtain ⟨h304, hF⟩ := chk_some hF
  have hr := hS.rd 0 rfl
  refine x_app 1 inf5 Tryd.underlying24 hA hS hr.1 hr.2.1 h304 rfl (fun A305 n306 c307 ac w hS hA => ?_) rfl rfl rfl rfl rfl rfl rfl rfl rfl
  refine x_m hA rfl fun ac hA => ?_
  refine wn (hK295 _ _ ?_)
  refine ws fun K308 hK308 => ?_
  refine x_m hA rfl fun ac hA => ?_
  refine wn (hK308 _ _ ?_)
  refine ws fun K309 hK309 => ?_
  refine x_m hA rfl fun ac hA => ?_
  refine x_len Tryd.underlying90 (hS.rdl 2 ha1 rfl).2.1 hA (fun ac hA => ?_) rfl rfl rfl rfl rfl
  refine x_m hA rfl fun ac hA => ?_
  obtain ⟨x310, h311, hF⟩ := ltt_ hF
  refine x_v (v := .int .i64 x310) hA (rv_i h311 (r_mul rfl (hA.ev rfl) (hA.ev rfl))) rfl fun ac hA => ?_
  obtain ⟨x312, h313, hF⟩ := ltt_ hF
  refine x_v (v := .int .i64 x312) hA (rv_i h313 (r_add rfl (hA.ev rfl) (hA.ev rfl))) rfl fun ac hA => ?_
  obtain ⟨x314, h315, hF⟩ := ltt_ hF
  refine x_v (v := .int .i64 x314) hA (rv_i h315 (r_quo rfl (hA.ev rfl) (hA.ev rfl) (by decide))) rfl fun ac hA => ?_
  obtain ⟨h316, hF⟩ := chk_some hF
  refine x_mks (d := (kI .u8)) (bytes := 1) 0 inf5 rfl Tryd.underlying24 h316 hA hS (fun g317 ac w hS hA => ?_) rfl rfl rfl rfl rfl rfl
  refine x_m hA rfl fun ac hA => ?_
  refine wn (hK309 _ _ ?_)
  refine wp_seq_k fun K318 hK318 => ?_
  refine ws fun K5861 hK5861 => ?_
  refine x_m hA rfl fun ac hA => ?_
  refine x_len Tryd.underlying90 (hS.rdl 3 ha1 rfl).2.1 hA (fun ac hA => ?_) rfl rfl rfl rfl rfl
  refine x_m hA rfl fun ac hA => ?_
  refine wn (hK5861 _ _ ?_)
  refine wp_block_k fun Kx5862 hKx5862 => ?_
  have hb2 : ∀ (l8646 : (List Int)), column_pack_b2 y296 x301 l8646 = some y → ∀ (ac : Act) (w : World), FR 83 [] ac [(0, .slice A305 n306 c307), (10, .slice (some ⟨g317, 0, none⟩) x314.toNat x314.toNat)] → SH r (own (kI .u8) 5 A305 n306 c307 (y296 ++ [x301]) :: own (kI .u8) 5 (some ⟨g317, 0, none⟩) x314.toNat x314.toNat l8646 :: L) w → Kx5862 ac w := by
   intro l8646 hF ac w hA hS
   unfold column_pack_b2 at hF
   refine hKx5862 _ _ ?_
   refine hK318 _ _ ?_
   refine ws fun K8647 hK8647 => ?_
   refine x_m hA rfl fun ac hA => ?_
   refine x_m hA rfl fun ac hA => ?_
   obtain ⟨h8648, hF⟩ := chk_some hF
   have hr := hS.rd 1 rfl
   refine x_app 0 inf5 Tryd.underlying24 hA hS hr.1 hr.2.1 h8648 rfl (fun A8649 n8650 c8651 ac w hS hA => ?_) rfl rfl rfl rfl rfl rfl rfl rfl rfl
   refine x_m hA rfl fun ac hA => ?_
   refine wn (hK8647 _ _ ?_)
   refine wp_ret ?_
   replace hS := hS.drop 1
   cases hF
   refine hQ _ _ ?_
   refine lv Tryd.results83 hA rfl ?_
   exact ⟨A8649, n8650, c8651, rfl, hS⟩
  obtain ⟨t10485, hl10485, hF⟩ := bnd hF
  have hx10485_2 : ∀ (l10485 : (List Int)), (l10485) = t10485 → ∀ (ac : Act) (w : World), FR 83 [] ac [(0, .slice A305 n306 c307), (10, .slice (some ⟨g317, 0, none⟩) x314.toNat x314.toNat)] → SH r (own (kI .u8) 5 A305 n306 c307 (y296 ++ [x301]) :: own (kI .u8) 5 (some ⟨g317, 0, none⟩) x314.toNat x314.toNat l10485 :: L) w → Kx5862 ac w := by
   intro l10485 ht ac w hA hS
   subst ht
   replace hF : column_pack_x1_2 y296 x301 l10485 = some y := hF
   unfold column_pack_x1_2 at hF
   exact hb2 l10485 hF ac w (hA.sub _ rfl) hS
  replace hS := hS.drop 2
  replace hS := hS.pk 1
  refine wp_loop_fn hl10485 (fun s ac w => FR 83 [] ac [(0, .slice A305 n306 c307), (5, .int .i64 y107), (6, .int .i64 x294), (9, .int .i64 s.1), (10, .slice (some ⟨g317, 0, none⟩) x314.toNat x314.toNat), (48, .slice A1 n1 c1), (49, .int .i64 (a1.length : Int)), (50, .int .i64 s.2.2)] ∧ SH r (own (kI .u8) 5 A305 n306 c307 (y296 ++ [x301]) :: own (kI .u8) 5 (some ⟨g317, 0, none⟩) x314.toNat x314.toNat s.2.1 :: L) w) ⟨hA.sub _ rfl, hS⟩ ?_
  intro N10485 s10485 o10485 hF N10485_ T10485_ ac w hLab
  obtain ⟨x9531, l9532, x9533⟩ := s10485
  replace hF : column_pack_l1 a1 y107 x294 x9531 l9532 x9533 = some o10485 := hF
  unfold column_pack_l1 at hF
  try dsimp only at hLab
  obtain ⟨hA, hS⟩ := hLab
  refine ws fun K10487 hK10487 => ?_
  refine x_v hA (r_ltI rfl (hA.ev rfl) (hA.ev rfl)) rfl fun ac hA => ?_
  refine wn (hK10487 _ _ ?_)
  refine wp_seq_k fun K10488 hK10488 => ?_
  refine c_if hA rfl (fun hb10489 => ?_) fun hb10489 => ?_
  ·replace hF := ift hb10489 hF
   refine wp_skip ?_
   refine hK10488 _ _ ?_
   refine wp_seq_k fun K10490 hK10490 => ?_
   refine wp_block_k fun Kx10962 hKx10962 => ?_
   refine ws fun K11198 hK11198 => ?_
   obtain ⟨x11199, h11200, hF⟩ := bnd hF
   refine x_ia Tryd.underlying90 sz2 (hS.rdl 2 ha1 rfl) h11200 hA (fun ac hA => ?_) rfl rfl rfl rfl rfl rfl
   obtain ⟨cs, hV, hc11201⟩ := el (hS.rdl 2 ha1 rfl) h11200
   obtain rfl := hV
   refine x_ld Tryd.underlying2 (hc11201 0 _ rfl) hA (fun ac hA => ?_) rfl rfl rfl rfl rfl rfl
   refine x_m hA rfl fun ac hA => ?_
   refine wn (hK11198 _ _ ?_)
   refine ws fun K11202 hK11202 => ?_
   refine x_m hA rfl fun ac hA => ?_
   refine x_m hA rfl fun ac hA => ?_
   refine wn (hK11202 _ _ ?_)
   refine wp_block_k fun Kx11203 hKx11203 => ?_
   have hb3 : ∀ (x11317 : Int) (l11318 : (List Int)), column_pack_b3 x9533 x11317 l11318 = some o10485 → ∀ (ac : Act) (w : World), FR 83 [] ac [(0, .slice A305 n306 c307), (5, .int .i64 y107), (6, .int .i64 x294), (9, .int .i64 x11317), (10, .slice (some ⟨g317, 0, none⟩) x314.toNat x314.toNat), (48, .slice A1 n1 c1), (49, .int .i64 (a1.length : Int)), (50, .int .i64 x9533)] → SH r (own (kI .u8) 5 A305 n306 c307 (y296 ++ [x301]) :: own (kI .u8) 5 (some ⟨g317, 0, none⟩) x314.toNat x314.toNat l11318 :: L) w → Kx11203 ac w := by
    intro x11317 l11318 hF ac w hA hS
    unfold column_pack_b3 at hF
    refine hKx11203 _ _ ?_
    refine hKx10962 _ _ ?_
    refine hK10490 _ _ ?_
    refine wp_reg ?_
    obtain ⟨x11319, h11320, hF⟩ := ltt_ hF
    refine x_v (v := .int .i64 x11319) hA (rv_i h11320 (r_add rfl (hA.ev rfl) (hA.ev rfl))) rfl fun ac hA => ?_
    refine x_m hA rfl fun ac hA => ?_
    refine wpList_nil ?_
    cases hF
    exact ⟨_, N10485_ _ rfl, hA.sub _ rfl, hS⟩
   obtain ⟨t11398, hl11398, hF⟩ := bnd hF
   have hx11398_4 : ∀ (x11397 : Int) (l11398 : (List Int)), (x11397, l11398) = t11398 → ∀ (ac : Act) (w : World), FR 83 [] ac [(0, .slice A305 n306 c307), (5, .int .i64 y107), (6, .int .i64 x294), (9, .int .i64 x11397), (10, .slice (some ⟨g317, 0, none⟩) x314.toNat x314.toNat), (48, .slice A1 n1 c1), (49, .int .i64 (a1.length : Int)), (50, .int .i64 x9533)] → SH r (own (kI .u8) 5 A305 n306 c307 (y296 ++ [x301]) :: own (kI .u8) 5 (some ⟨g317, 0, none⟩) x314.toNat x314.toNat l11398 :: L) w → Kx11203 ac w := by
    intro x11397 l11398 ht ac w hA hS
    subst ht
    replace hF : column_pack_x2_4 x9533 x11397 l11398 = some o10485 := hF
    unfold column_pack_x2_4 at hF
    exact hb3 x11397 l11398 hF ac w (hA.sub _ rfl) hS
   refine wp_loop_fn hl11398 (fun s ac w => FR 83 [] ac [(0, .slice A305 n306 c307), (5, .int .i64 y107), (6, .int .i64 x294), (9, .int .i64 s.1), (10, .slice (some ⟨g317, 0, none⟩) x314.toNat x314.toNat), (12, .int .i64 x11199), (48, .slice A1 n1 c1), (49, .int .i64 (a1.length : Int)), (50, .int .i64 x9533), (54, .int .i64 x294), (55, .int .i64 s.2.2)] ∧ SH r (own (kI .u8) 5 A305 n306 c307 (y296 ++ [x301]) :: own (kI .u8) 5 (some ⟨g317, 0, none⟩) x314.toNat x314.toNat s.2.1 :: L) w) ⟨hA.sub _ rfl, hS⟩ ?_
   intro N11398 s11398 o11398 hF N11398_ T11398_ ac w hLab
   obtain ⟨x11357, l11358, x11359⟩ := s11398
   replace hF : column_pack_l2 y107 x294 x11199 x11357 l11358 x11359 = some o11398 := hF
   unfold column_pack_l2 at hF
   try dsimp only at hLab
   obtain ⟨hA, hS⟩ := hLab
   refine ws fun K11400 hK11400 => ?_
   refine x_v hA (r_ltI rfl (hA.ev rfl) (hA.ev rfl)) rfl fun ac hA => ?_
   refine wn (hK11400 _ _ ?_)
   refine wp_seq_k fun K11401 hK11401 => ?_
   refine c_if hA rfl (fun hb11402 => ?_) fun hb11402 => ?_
   ·replace hF := ift hb11402 hF
    refine wp_skip ?_
    refine hK11401 _ _ ?_
    refine wp_seq_k fun K11403 hK11403 => ?_
    refine wp_block_k fun Kx11404 hKx11404 => ?_
    refine ws fun K11405 hK11405 => ?_
    refine x_m hA rfl fun ac hA => ?_
    refine x_m hA rfl fun ac hA => ?_
    refine wn (hK11405 _ _ ?_)
    refine wp_seq_k fun K11406 hK11406 => ?_
    refine wp_draw [0, 0, 2, 7, 15, 0, 0, 96, 224, 0, 992, 2016, 4064, 0, 8192, 32736, 65535, 131071, 262143] [18] rfl hA hS (by kernel_rfl) (by kernel_rfl) (by kernel_rfl) (by kernel_rfl) fun w hS => ?_
    obtain ⟨x11407, h11408, hF⟩ := ltt_ hF
    obtain ⟨x11409, h11410, hF⟩ := bnd hF
    obtain ⟨cs, hV, hc11411⟩ := el (hS.rd 1 rfl) h11410
    obtain rfl := hV
    obtain ⟨x11412, h11413, hF⟩ := ltt_ hF
    obtain ⟨x11414, h11415, hF⟩ := ltt_ hF
    obtain ⟨h11416, hF⟩ := chk_some hF
    obtain ⟨x11417, h11418, hF⟩ := ltt_ hF
    obtain ⟨x11419, h11420, hF⟩ := ltt_ hF
    obtain ⟨x11421, h11422, hF⟩ := ltt_ hF
    obtain ⟨x11423, h11424, hF⟩ := ltt_ hF
    obtain ⟨h11425, hF⟩ := chk_some hF
    obtain ⟨x11426, h11427, hF⟩ := ltt_ hF
    obtain ⟨x11428, h11429, hF⟩ := ltt_ hF
    refine ⟨[(0, .slice (some ⟨g317, 0, none⟩) x314.toNat x314.toNat), (1, .int .i64 x11357), (2, .int .i64 x11407), (3, .pointer (some (ea (some ⟨g317, 0, none⟩) (x11407.toNat * 1)))), (4, .int .u8 x11409), (5, .int .i64 x11199), (6, .int .i64 y107), (7, .int .i64 x11412), (8, .int .u64 x11414), (9, .int .i64 x11359), (10, .int .u64 x11417), (11, .int .u64 x11419), (12, .int .u8 x11421), (13, .int .i64 x11357), (14, .int .i64 x11423), (15, .int .u8 x11426), (16, .int .u8 x11428), (17, .pointer (some (ea (some ⟨g317, 0, none⟩) (x11407.toNat * 1))))], ?_⟩
    refine dEff [0, 1, 2, 3, 4, 5, 6, 7, 8, 9, 10, 11, 12, 13, 14, 15, 16, 17] [18] (by kernel_rfl) ⟨pu rfl rfl [(10, .slice (some ⟨g317, 0, none⟩) x314.toNat x314.toNat)] (fun ac hA => y_move hA rfl rfl) rfl rfl, pu rfl rfl [(9, .int .i64 x11357)] (fun ac hA => y_move hA rfl rfl) rfl rfl, pu rfl rfl [(59, .int .i64 x11357)] (fun ac hA => (rv_i h11408 (r_quo rfl (hA.ev rfl) (hA.ev rfl) (by decide)) : RunV _ _ _ _ (.int .i64 x11407))) rfl rfl, pu rfl rfl [(58, .slice (some ⟨g317, 0, none⟩) x314.toNat x314.toNat), (60, .int .i64 x11407)] (fun ac hA => y_ia Tryd.underlying24 sz5 (hS.rd 1 rfl) h11410 hA rfl rfl rfl) rfl rfl, pu rfl rfl [(61, .pointer (some (ea (some ⟨g317, 0, none⟩) (x11407.toNat * 1))))] (fun ac hA => y_ld Tryd.underlying5 (hc11411 0 _ rfl) hA rfl rfl rfl) rfl rfl, pu rfl rfl [(12, .int .i64 x11199)] (fun ac hA => y_move hA rfl rfl) rfl rfl, pu rfl rfl [(5, .int .i64 y107)] (fun ac hA => y_move hA rfl rfl) rfl rfl, pu rfl rfl [(63, .int .i64 x11199), (64, .int .i64 y107)] (fun ac hA => (rv_i h11413 (r_sub rfl (hA.ev rfl) (hA.ev rfl)) : RunV _ _ _ _ (.int .i64 x11412))) rfl rfl, pu rfl rfl [(65, .int .i64 x11412)] (fun ac hA => (rv_i h11415 (r_convI Tryd.underlying2 Tryd.underlying31 rfl (hA.ev rfl)) : RunV _ _ _ _ (.int .u64 x11414))) rfl rfl, pu rfl rfl [(13, .int .i64 x11359)] (fun ac hA => y_move hA rfl rfl) rfl rfl, pu rfl rfl [(66, .int .u64 x11414), (67, .int .i64 x11359)] (fun ac hA => (rv_i h11418 (r_shr rfl (hA.ev rfl) (hA.ev rfl) h11416) : RunV _ _ _ _ (.int .u64 x11417))) rfl rfl, pu rfl rfl [(68, .int .u64 x11417)] (fun ac hA => (rv_i h11420 (r_and rfl (hA.ev rfl) (hA.ev rfl)) : RunV _ _ _ _ (.int .u64 x11419))) rfl rfl, pu rfl rfl [(69, .int .u64 x11419)] (fun ac hA => (rv_i h11422 (r_convI Tryd.underlying31 Tryd.underlying5 rfl (hA.ev rfl)) : RunV _ _ _ _ (.int .u8 x11421))) rfl rfl, pu rfl rfl [(9, .int .i64 x11357)] (fun ac hA => y_move hA rfl rfl) rfl rfl, pu rfl rfl [(71, .int .i64 x11357)] (fun ac hA => (rv_i h11424 (r_rem rfl (hA.ev rfl) (hA.ev rfl) (by decide)) : RunV _ _ _ _ (.int .i64 x11423))) rfl rfl, pu rfl rfl [(70, .int .u8 x11421), (72, .int .i64 x11423)] (fun ac hA => (rv_i h11427 (r_shl rfl (hA.ev rfl) (hA.ev rfl) h11425) : RunV _ _ _ _ (.int .u8 x11426))) rfl rfl, pu rfl rfl [(62, .int .u8 x11409), (73, .int .u8 x11426)] (fun ac hA => (rv_i h11429 (r_or rfl (hA.ev rfl) (hA.ev rfl)) : RunV _ _ _ _ (.int .u8 x11428))) rfl rfl, pu rfl rfl [(58, .slice (some ⟨g317, 0, none⟩) x314.toNat x314.toNat), (60, .int .i64 x11407)] (fun ac hA => y_ia Tryd.underlying24 sz5 (hS.rd 1 rfl) h11410 hA rfl rfl rfl) rfl rfl, trivial⟩ (by kernel_rfl) (by kernel_rfl) ⟨ef rfl [(74, .int .u8 x11428), (75, .pointer (some (ea (some ⟨g317, 0, none⟩) (x11407.toNat * 1))))] (fun ac hA K hK => ?_) rfl rfl, trivial⟩
    refine z_sto (z' := x11428) (off := 0) (vs := [.int .u8 x11428]) 1 sz5 hA hS rfl (at_some h11410).2.2 (fun c h => by cases h; rfl) (fun  w hS => ?_) rfl rfl rfl rfl rfl rfl
    refine hK _ [] _ rfl ?_
    refine dEnd [] (by kernel_rfl) trivial ⟨by kernel_rfl, by kernel_rfl⟩ [(0, .slice A305 n306 c307), (5, .int .i64 y107), (6, .int .i64 x294), (9, .int .i64 x11357), (10, .slice (some ⟨g317, 0, none⟩) x314.toNat x314.toNat), (12, .int .i64 x11199), (48, .slice A1 n1 c1), (49, .int .i64 (a1.length : Int)), (50, .int .i64 x9533), (54, .int .i64 x294), (55, .int .i64 x11359)] rfl (fun ac hA => ?_)
    refine hK11406 _ _ ?_
    refine wp_reg ?_
    refine x_m hA rfl fun ac hA => ?_
    obtain ⟨x11430, h11431, hF⟩ := ltt_ hF
    refine x_v (v := .int .i64 x11430) hA (rv_i h11431 (r_add rfl (hA.ev rfl) (hA.ev rfl))) rfl fun ac hA => ?_
    refine x_m hA rfl fun ac hA => ?_
    refine wpList_nil ?_
    refine hKx11404 _ _ ?_
    refine hK11403 _ _ ?_
    refine wp_reg ?_
    obtain ⟨x11432, h11433, hF⟩ := ltt_ hF
    refine x_v (v := .int .i64 x11432) hA (rv_i h11433 (r_add rfl (hA.ev rfl) (hA.ev rfl))) rfl fun ac hA => ?_
    refine x_m hA rfl fun ac hA => ?_
    refine wpList_nil ?_
    replace hS := hS.pk 1
    cases hF
    exact ⟨_, N11398_ _ rfl, hA.sub _ rfl, hS⟩
   replace hF := iff' hb11402 hF
   refine wp_exit ?_
   cases hF
   exact hx11398_4 x11357 l11358 (T11398_ _ rfl) ac w (hA.sub _ rfl) hS
  replace hF := iff' hb10489 hF
  refine wp_exit ?_
  cases hF
  exact hx10485_2 l9532 (T10485_ _ rfl) ac w (hA.sub _ rfl) hS
 obtain ⟨t11474, hl11474, hF⟩ := bnd hF
 have hx11474_0 : ∀ (x11474 : Int), (x11474) = t11474 → ∀ (ac : Act) (w : World), FR 83 [] ac [(0, .slice A0 n0 c0), (1, .slice A1 n1 c1), (5, .int .i64 y107), (6, .int .i64 x11474)] → SH r (own (kI .u8) 5 A0 n0 c0 a0 :: L) w → Kx234 ac w := by
  intro x11474 ht ac w hA hS
  subst ht
  replace hF : column_pack_x3_0 a0 a1 y107 x11474 = some y := hF
  unfold column_pack_x3_0 at hF
  exact hb1 x11474 hF ac w (hA.sub _ rfl) hS
 refine wp_loop_fn hl11474 (fun s ac w => FR 83 [] ac [(0, .slice A0 n0 c0), (1, .slice A1 n1 c1), (5, .int .i64 y107), (6, .int .i64 s.1), (20, .slice A1 n1 c1), (21, .int .i64 (a1.length : Int)), (22, .int .i64 s.2)] ∧ SH r (own (kI .u8) 5 A0 n0 c0 a0 :: L) w) ⟨hA.sub _ rfl, hS⟩ ?_
 intro N11474 s11474 o11474 hF N11474_ T11474_ ac w hLab
 obtain ⟨x11453, x11454⟩ := s11474
 replace hF : column_pack_l3 a1 y107 x11453 x11454 = some o11474 := hF
 unfold column_pack_l3 at hF
 try dsimp only at hLab
 obtain ⟨hA, hS⟩ := hLab
 refine ws fun K11476 hK11476 => ?_
 refine x_v hA (r_ltI rfl (hA.ev rfl) (hA.ev rfl)) rfl fun ac hA => ?_
 refine wn (hK11476 _ _ ?_)
 refine wp_seq_k fun K11477 hK11477 => ?_
 refine c_if hA rfl (fun hb11478 => ?_) fun hb11478 => ?_
 ·replace hF := ift hb11478 hF
  refine wp_skip ?_
  refine hK11477 _ _ ?_
  refine wp_seq_k fun K11479 hK11479 => ?_
  refine wp_block_k fun Kx11480 hKx11480 => ?_
  refine ws fun K11481 hK11481 => ?_
  obtain ⟨x11482, h11483, hF⟩ := bnd hF
  refine x_ia Tryd.underlying90 sz2 (hS.rdl 1 ha1 rfl) h11483 hA (fun ac hA => ?_) rfl rfl rfl rfl rfl rfl
  obtain ⟨cs, hV, hc11484⟩ := el (hS.rdl 1 ha1 rfl) h11483
  obtain rfl := hV
  refine x_ld Tryd.underlying2 (hc11484 0 _ rfl) hA (fun ac hA => ?_) rfl rfl rfl rfl rfl rfl
  refine x_m hA rfl fun ac hA => ?_
  refine wn (hK11481 _ _ ?_)
  refine wp_reg ?_
  refine x_m hA rfl fun ac hA => ?_
  refine x_m hA rfl fun ac hA => ?_
  refine x_m hA rfl fun ac hA => ?_
  obtain ⟨x11485, h11486, hF⟩ := ltt_ hF
  refine x_v (v := .int .i64 x11485) hA (rv_i h11486 (r_sub rfl (hA.ev rfl) (hA.ev rfl))) rfl fun ac hA => ?_
  obtain ⟨x11487, h11488, hF⟩ := ltt_ hF
  refine x_v (v := .int .u64 x11487) hA (rv_i h11488 (r_convI Tryd.underlying2 Tryd.underlying31 rfl (hA.ev rfl))) rfl fun ac hA => ?_
  obtain ⟨y11489, h11490, hF⟩ := bnd hF
  refine x_call en97 hA (F_bits_Len64 (L := own (kI .u8) 5 A0 n0 c0 a0 :: L) x11487 h11490 hS) (fun v ac w hR hA => ?_) rfl rfl rfl rfl rfl
  obtain ⟨rfl, hS⟩ := hR
  refine x_v hA (r_maxI rfl (hA.ev rfl) (hA.ev rfl)) rfl fun ac hA => ?_
  refine x_m hA rfl fun ac hA => ?_
  refine wpList_nil ?_
  refine hKx11480 _ _ ?_
  refine hK11479 _ _ ?_
  refine wp_reg ?_
  obtain ⟨x11491, h11492, hF⟩ := ltt_ hF
  refine x_v (v := .int .i64 x11491) hA (rv_i h11492 (r_add rfl (hA.ev rfl) (hA.ev rfl))) rfl fun ac hA => ?_
  refine x_m hA rfl fun ac hA => ?_
  refine wpList_nil ?_
  cases hF
  exact ⟨_, N11474_ _ rfl, hA.sub _ rfl, hS⟩
 replace hF := iff' hb11478 hF
 refine wp_exit ?_
 cases hF
 exact hx11474_0 x11453 (T11474_ _ rfl) ac w (hA.sub _ rfl) hS
theorem F_column_As {r : World} {L : List HP} {w : World} (a0 : Int) (a1 : (List Int)) (A1 : Option Addr) (n1 : Nat) (c1 : Nat) {y : ((List Int))} (hF : column_As a0 a1 = some y) (ha1 : RdL L (kI .i64) A1 n1 c1 a1) (hS : SH r (L) w) :
  Ret Tryd.prog 68 #[.int .u8 a0, .slice A1 n1 c1] w fun v w' => ∃ (B0 : Option Addr) (m0 : Nat) (d0 : Nat), v = .slice B0 m0 d0 ∧ SH r (own (kI .u8) 5 B0 m0 d0 y :: L) w' := by
 refine enter Tryd.func68 rfl Tryd.ntmps68 [(0, .int .u8 a0), (1, .slice A1 n1 c1)] rfl (by simp) ?_
 intro ac hA Qf hQ hQn
 unfold column_As at hF
 refine ws fun K101 hK101 => ?_
 refine x_m hA rfl fun ac hA => ?_
 refine wn (hK101 _ _ ?_)
 refine ws fun K102 hK102 => ?_
 refine x_m hA rfl fun ac hA => ?_
 refine x_bsl (d := (kI .u8)) (e := 5) (ps := #[(0, .int .u8 a0)]) (cells := [.int .u8 a0]) (xs := [a0]) (fun w => by kernel_rfl) rfl ⟨[.int .u8 a0], _, rfl, rfl, rfl⟩ hA hS (fun g103 ac w hS hA => ?_) rfl rfl rfl rfl rfl rfl
 refine x_m hA rfl fun ac hA => ?_
 refine x_len Tryd.underlying90 (hS.rdl 1 ha1 rfl).2.1 hA (fun ac hA => ?_) rfl rfl rfl rfl rfl
 obtain ⟨x104, h105, hF⟩ := ltt_ hF
 refine x_v (v := .int .u64 x104) hA (rv_i h105 (r_convI Tryd.underlying3 Tryd.underlying31 rfl (hA.ev rfl))) rfl fun ac hA => ?_
 obtain ⟨y106, h107, hF⟩ := bnd hF
 refine x_call en48 hA (F_column_Uint (L := L) [a0] x104 (some ⟨g103, 0, none⟩) 1 1 h107 hS) (fun v ac w hR hA => ?_) rfl rfl rfl rfl rfl
 obtain ⟨B108, m109, d110, rfl, hS⟩ := hR
 refine x_m hA rfl fun ac hA => ?_
 refine wn (hK102 _ _ ?_)
 refine wp_seq_k fun K111 hK111 => ?_
 refine ws fun K5229 hK5229 => ?_
 refine x_m hA rfl fun ac hA => ?_
 refine wn (hK5229 _ _ ?_)
 refine wp_block_k fun Kx5230 hKx5230 => ?_
 have hb1 : ∀ (l7786 : (List Int)), column_As_b1 l7786 = some y → ∀ (A7787 : Option Addr) (n7788 : Nat) (c7789 : Nat) (ac : Act) (w : World), FR 93 [] ac [(5, .slice A7787 n7788 c7789)] → SH r (own (kI .u8) 5 A7787 n7788 c7789 l7786 :: L) w → Kx5230 ac w := by
  intro l7786 hF A7787 n7788 c7789 ac w hA hS
  unfold column_As_b1 at hF
  refine hKx5230 _ _ ?_
  refine hK111 _ _ ?_
  refine ws fun K7790 hK7790 => ?_
  refine x_m hA rfl fun ac hA => ?_
  refine x_m hA rfl fun ac hA => ?_
  refine wn (hK7790 _ _ ?_)
  refine wp_ret ?_
  cases hF
  refine hQ _ _ ?_
  refine lv Tryd.results68 hA rfl ?_
  exact ⟨A7787, n7788, c7789, rfl, hS⟩
 refine ws fun K7791 hK7791 => ?_
 refine x_v hA (r_eqI rfl (hA.ev rfl) (hA.ev rfl)) rfl fun ac hA => ?_
 refine x_m hA rfl fun ac hA => ?_
 refine wn (hK7791 _ _ ?_)
 refine c_if hA rfl (fun hb7792 => ?_) fun hb7792 => ?_
 ·replace hF := ift hb7792 hF
  refine ws fun K7793 hK7793 => ?_
  refine x_m hA rfl fun ac hA => ?_
  refine x_len Tryd.underlying90 (hS.rdl 1 ha1 rfl).2.1 hA (fun ac hA => ?_) rfl rfl rfl rfl rfl
  refine x_m hA rfl fun ac hA => ?_
  refine wn (hK7793 _ _ ?_)
  refine wp_block_k fun Kx7794 hKx7794 => ?_
  have hb2 : ∀ (l7863 : (List Int)), column_As_b2 l7863 = some y → ∀ (A7864 : Option Addr) (n7865 : Nat) (c7866 : Nat) (ac : Act) (w : World), FR 93 [] ac [(5, .slice A7864 n7865 c7866)] → SH r (own (kI .u8) 5 A7864 n7865 c7866 l7863 :: L) w → Kx7794 ac w := by
   intro l7863 hF A7864 n7865 c7866 ac w hA hS
   unfold column_As_b2 at hF
   refine hKx7794 _ _ ?_
   exact hb1 l7863 hF A7864 n7865 c7866 ac w (hA.sub _ rfl) hS
  obtain ⟨t7917, hl7917, hF⟩ := bnd hF
  have hx7917_1 : ∀ (l7914 : (List Int)), (l7914) = t7917 → ∀ (A7915 : Option Addr) (n7916 : Nat) (c7917 : Nat) (ac : Act) (w : World), FR 93 [] ac [(5, .slice A7915 n7916 c7917)] → SH r (own (kI .u8) 5 A7915 n7916 c7917 l7914 :: L) w → Kx7794 ac w := by
   intro l7914 ht A7915 n7916 c7917 ac w hA hS
   subst ht
   replace hF : column_As_x1_1 l7914 = some y := hF
   unfold column_As_x1_1 at hF
   exact hb2 l7914 hF A7915 n7916 c7917 ac w (hA.sub _ rfl) hS
  refine wp_loop_fn hl7917 (fun s ac w => ∃ (A7889 : Option Addr) (n7890 : Nat) (c7891 : Nat), FR 93 [] ac [(5, .slice A7889 n7890 c7891), (22, .slice A1 n1 c1), (23, .int .i64 (a1.length : Int)), (24, .int .i64 s.2)] ∧ SH r (own (kI .u8) 5 A7889 n7890 c7891 s.1 :: L) w) ⟨B108, m109, d110, hA.sub _ rfl, hS⟩ ?_
  intro N7917 s7917 o7917 hF N7917_ T7917_ ac w hLab
  obtain ⟨l7888, x7892⟩ := s7917
  replace hF : column_As_l1 a1 l7888 x7892 = some o7917 := hF
  unfold column_As_l1 at hF
  try dsimp only at hLab
  obtain ⟨A7889, n7890, c7891, hA, hS⟩ := hLab
  refine ws fun K7919 hK7919 => ?_
  refine x_v hA (r_ltI rfl (hA.ev rfl) (hA.ev rfl)) rfl fun ac hA => ?_
  refine wn (hK7919 _ _ ?_)
  refine wp_seq_k fun K7920 hK7920 => ?_
  refine c_if hA rfl (fun hb7921 => ?_) fun hb7921 => ?_
  ·replace hF := ift hb7921 hF
   refine wp_skip ?_
   refine hK7920 _ _ ?_
   refine wp_seq_k fun K7922 hK7922 => ?_
   refine wp_block_k fun Kx7923 hKx7923 => ?_
   refine ws fun K7924 hK7924 => ?_
   obtain ⟨x7925, h7926, hF⟩ := bnd hF
   refine x_ia Tryd.underlying90 sz2 (hS.rdl 1 ha1 rfl) h7926 hA (fun ac hA => ?_) rfl rfl rfl rfl rfl rfl
   obtain ⟨cs, hV, hc7927⟩ := el (hS.rdl 1 ha1 rfl) h7926
   obtain rfl := hV
   refine x_ld Tryd.underlying2 (hc7927 0 _ rfl) hA (fun ac hA => ?_) rfl rfl rfl rfl rfl rfl
   refine x_m hA rfl fun ac hA => ?_
   refine wn (hK7924 _ _ ?_)
   refine wp_reg ?_
   refine x_m hA rfl fun ac hA => ?_
   refine x_m hA rfl fun ac hA => ?_
   obtain ⟨y7928, h7929, hF⟩ := bnd hF
   refine x_call en28 hA (F_column_Int (L := L) l7888 x7925 A7889 n7890 c7891 h7929 hS) (fun v ac w hR hA => ?_) rfl rfl rfl rfl rfl
   obtain ⟨B7930, m7931, d7932, rfl, hS⟩ := hR
   refine x_m hA rfl fun ac hA => ?_
   refine wpList_nil ?_
   refine hKx7923 _ _ ?_
   refine hK7922 _ _ ?_
   refine wp_reg ?_
   obtain ⟨x7933, h7934, hF⟩ := ltt_ hF
   refine x_v (v := .int .i64 x7933) hA (rv_i h7934 (r_add rfl (hA.ev rfl) (hA.ev rfl))) rfl fun ac hA => ?_
   refine x_m hA rfl fun ac hA => ?_
   refine wpList_nil ?_
   cases hF
   exact ⟨_, N7917_ _ rfl, B7930, m7931, d7932, hA.sub _ rfl, hS⟩
  replace hF := iff' hb7921 hF
  refine wp_exit ?_
  cases hF
  exact hx7917_1 l7888 (T7917_ _ rfl) A7889 n7890 c7891 ac w (hA.sub _ rfl) hS
 replace hF := iff' hb7792 hF
 refine ws fun K7935 hK7935 => ?_
 refine x_v hA (r_eqI rfl (hA.ev rfl) (hA.ev rfl)) rfl fun ac hA => ?_
 refine x_m hA rfl fun ac hA => ?_
 refine wn (hK7935 _ _ ?_)
 refine c_if hA rfl (fun hb7936 => ?_) fun hb7936 => ?_
 ·replace hF := ift hb7936 hF
  refine ws fun K7937 hK7937 => ?_
  refine x_m hA rfl fun ac hA => ?_
  refine wn (hK7937 _ _ ?_)
  refine ws fun K7938 hK7938 => ?_
  refine x_m hA rfl fun ac hA => ?_
  refine x_len Tryd.underlying90 (hS.rdl 1 ha1 rfl).2.1 hA (fun ac hA => ?_) rfl rfl rfl rfl rfl
  refine x_m hA rfl fun ac hA => ?_
  refine wn (hK7938 _ _ ?_)
  refine wp_block_k fun Kx7939 hKx7939 => ?_
  have hb3 : ∀ (l8020 : (List Int)), column_As_b3 l8020 = some y → ∀ (A8021 : Option Addr) (n8022 : Nat) (c8023 : Nat) (ac : Act) (w : World), FR 93 [] ac [(5, .slice A8021 n8022 c8023)] → SH r (own (kI .u8) 5 A8021 n8022 c8023 l8020 :: L) w → Kx7939 ac w := by
   intro l8020 hF A8021 n8022 c8023 ac w hA hS
   unfold column_As_b3 at hF
   refine hKx7939 _ _ ?_
   exact hb1 l8020 hF A8021 n8022 c8023 ac w (hA.sub _ rfl) hS
  obtain ⟨t8083, hl8083, hF⟩ := bnd hF
  have hx8083_3 : ∀ (l8080 : (List Int)), (l8080) = t8083 → ∀ (A8081 : Option Addr) (n8082 : Nat) (c8083 : Nat) (ac : Act) (w : World), FR 93 [] ac [(5, .slice A8081 n8082 c8083)] → SH r (own (kI .u8) 5 A8081 n8082 c8083 l8080 :: L) w → Kx7939 ac w := by
   intro l8080 ht A8081 n8082 c8083 ac w hA hS
   subst ht
   replace hF : column_As_x2_3 l8080 = some y := hF
   unfold column_As_x2_3 at hF
   exact hb3 l8080 hF A8081 n8082 c8083 ac w (hA.sub _ rfl) hS
  refine wp_loop_fn hl8083 (fun s ac w => ∃ (A8050 : Option Addr) (n8051 : Nat) (c8052 : Nat), FR 93 [] ac [(5, .slice A8050 n8051 c8052), (8, .int .i64 s.2.1), (34, .slice A1 n1 c1), (35, .int .i64 (a1.length : Int)), (36, .int .i64 s.2.2)] ∧ SH r (own (kI .u8) 5 A8050 n8051 c8052 s.1 :: L) w) ⟨B108, m109, d110, hA.sub _ rfl, hS⟩ ?_
  intro N8083 s8083 o8083 hF N8083_ T8083_ ac w hLab
  obtain ⟨l8049, x8053, x8054⟩ := s8083
  replace hF : column_As_l2 a1 l8049 x8053 x8054 = some o8083 := hF
  unfold column_As_l2 at hF
  try dsimp only at hLab
  obtain ⟨A8050, n8051, c8052, hA, hS⟩ := hLab
  refine ws fun K8085 hK8085 => ?_
  refine x_v hA (r_ltI rfl (hA.ev rfl) (hA.ev rfl)) rfl fun ac hA => ?_
  refine wn (hK8085 _ _ ?_)
  refine wp_seq_k fun K8086 hK8086 => ?_
  refine c_if hA rfl (fun hb8087 => ?_) fun hb8087 => ?_
  ·replace hF := ift hb8087 hF
   refine wp_skip ?_
   refine hK8086 _ _ ?_
   refine wp_seq_k fun K8088 hK8088 => ?_
   refine wp_block_k fun Kx8089 hKx8089 => ?_
   refine ws fun K8090 hK8090 => ?_
   obtain ⟨x8091, h8092, hF⟩ := bnd hF
   refine x_ia Tryd.underlying90 sz2 (hS.rdl 1 ha1 rfl) h8092 hA (fun ac hA => ?_) rfl rfl rfl rfl rfl rfl
   obtain ⟨cs, hV, hc8093⟩ := el (hS.rdl 1 ha1 rfl) h8092
   obtain rfl := hV
   refine x_ld Tryd.underlying2 (hc8093 0 _ rfl) hA (fun ac hA => ?_) rfl rfl rfl rfl rfl rfl
   refine x_m hA rfl fun ac hA => ?_
   refine wn (hK8090 _ _ ?_)
   refine ws fun K8094 hK8094 => ?_
   refine x_m hA rfl fun ac hA => ?_
   refine x_m hA rfl fun ac hA => ?_
   refine x_m hA rfl fun ac hA => ?_
   obtain ⟨x8095, h8096, hF⟩ := ltt_ hF
   refine x_v (v := .int .i64 x8095) hA (rv_i h8096 (r_sub rfl (hA.ev rfl) (hA.ev rfl))) rfl fun ac hA => ?_
   obtain ⟨y8097, h8098, hF⟩ := bnd hF
   refine x_call en28 hA (F_column_Int (L := L) l8049 x8095 A8050 n8051 c8052 h8098 hS) (fun v ac w hR hA => ?_) rfl rfl rfl rfl rfl
   obtain ⟨B8099, m8100, d8101, rfl, hS⟩ := hR
   refine x_m hA rfl fun ac hA => ?_
   refine wn (hK8094 _ _ ?_)
   refine wp_reg ?_
   refine x_m hA rfl fun ac hA => ?_
   refine x_m hA rfl fun ac hA => ?_
   refine wpList_nil ?_
   refine hKx8089 _ _ ?_
   refine hK8088 _ _ ?_
   refine wp_reg ?_
   obtain ⟨x8102, h8103, hF⟩ := ltt_ hF
   refine x_v (v := .int .i64 x8102) hA (rv_i h8103 (r_add rfl (hA.ev rfl) (hA.ev rfl))) rfl fun ac hA => ?_
   refine x_m hA rfl fun ac hA => ?_
   refine wpList_nil ?_
   cases hF
   exact ⟨_, N8083_ _ rfl, B8099, m8100, d8101, hA.sub _ rfl, hS⟩
  replace hF := iff' hb8087 hF
  refine wp_exit ?_
  cases hF
  exact hx8083_3 l8049 (T8083_ _ rfl) A8050 n8051 c8052 ac w (hA.sub _ rfl) hS
 replace hF := iff' hb7936 hF
 refine ws fun K8104 hK8104 => ?_
 refine x_v hA (r_eqI rfl (hA.ev rfl) (hA.ev rfl)) rfl fun ac hA => ?_
 refine x_m hA rfl fun ac hA => ?_
 refine wn (hK8104 _ _ ?_)
 refine c_if hA rfl (fun hb8105 => ?_) fun hb8105 => ?_
 ·replace hF := ift hb8105 hF
  refine ws fun K8106 hK8106 => ?_
  refine x_m hA rfl fun ac hA => ?_
  refine wn (hK8106 _ _ ?_)
  refine wp_block_k fun Kx8107 hKx8107 => ?_
  have hb4 : ∀ (l9220 : (List Int)), column_As_b4 l9220 = some y → ∀ (A9221 : Option Addr) (n9222 : Nat) (c9223 : Nat) (ac : Act) (w : World), FR 93 [] ac [(5, .slice A9221 n9222 c9223)] → SH r (own (kI .u8) 5 A9221 n9222 c9223 l9220 :: L) w → Kx8107 ac w := by
   intro l9220 hF A9221 n9222 c9223 ac w hA hS
   unfold column_As_b4 at hF
   refine hKx8107 _ _ ?_
   exact hb1 l9220 hF A9221 n9222 c9223 ac w (hA.sub _ rfl) hS
  obtain ⟨t9970, hl9970, hF⟩ := bnd hF
  have hx9970_5 : ∀ (l9967 : (List Int)), (l9967) = t9970 → ∀ (A9968 : Option Addr) (n9969 : Nat) (c9970 : Nat) (ac : Act) (w : World), FR 93 [] ac [(5, .slice A9968 n9969 c9970)] → SH r (own (kI .u8) 5 A9968 n9969 c9970 l9967 :: L) w → Kx8107 ac w := by
   intro l9967 ht A9968 n9969 c9970 ac w hA hS
   subst ht
   replace hF : column_As_x3_5 l9967 = some y := hF
   unfold column_As_x3_5 at hF
   exact hb4 l9967 hF A9968 n9969 c9970 ac w (hA.sub _ rfl) hS
  refine wp_loop_fn hl9970 (fun s ac w => ∃ (A9594 : Option Addr) (n9595 : Nat) (c9596 : Nat), FR 93 [] ac [(1, .slice A1 n1 c1), (5, .slice A9594 n9595 c9596), (11, .int .i64 s.2)] ∧ SH r (own (kI .u8) 5 A9594 n9595 c9596 s.1 :: L) w) ⟨B108, m109, d110, hA.sub _ rfl, hS⟩ ?_
  intro N9970 s9970 o9970 hF N9970_ T9970_ ac w hLab
  obtain ⟨l9593, x9597⟩ := s9970
  replace hF : column_As_l3 a1 l9593 x9597 = some o9970 := hF
  unfold column_As_l3 at hF
  try dsimp only at hLab
  obtain ⟨A9594, n9595, c9596, hA, hS⟩ := hLab
  refine wp_seq_k fun K9972 hK9972 => ?_
  refine ws fun K9973 hK9973 => ?_
  refine x_m hA rfl fun ac hA => ?_
  refine x_m hA rfl fun ac hA => ?_
  refine x_len Tryd.underlying90 (hS.rdl 1 ha1 rfl).2.1 hA (fun ac hA => ?_) rfl rfl rfl rfl rfl
  refine x_v hA (r_ltI rfl (hA.ev rfl) (hA.ev rfl)) rfl fun ac hA => ?_
  refine wn (hK9973 _ _ ?_)
  refine c_if hA rfl (fun hb9974 => ?_) fun hb9974 => ?_
  ·replace hF := ift hb9974 hF
   refine wp_skip ?_
   refine hK9972 _ _ ?_
   refine wp_block_k fun Kx9975 hKx9975 => ?_
   refine ws fun K9976 hK9976 => ?_
   refine x_m hA rfl fun ac hA => ?_
   refine wn (hK9976 _ _ ?_)
   refine wp_seq_k fun K9977 hK9977 => ?_
   refine wp_block_k fun Kx10147 hKx10147 => ?_
   have hb5 : ∀ (x10231 : Int), column_As_b5 a1 l9593 x9597 x10231 = some o9970 → ∀ (ac : Act) (w : World), FR 93 [] ac [(1, .slice A1 n1 c1), (5, .slice A9594 n9595 c9596), (11, .int .i64 x9597), (12, .int .i64 x10231)] → SH r (own (kI .u8) 5 A9594 n9595 c9596 l9593 :: L) w → Kx10147 ac w := by
    intro x10231 hF ac w hA hS
    unfold column_As_b5 at hF
    refine hKx10147 _ _ ?_
    refine hK9977 _ _ ?_
    refine ws fun K10232 hK10232 => ?_
    refine x_m hA rfl fun ac hA => ?_
    refine x_m hA rfl fun ac hA => ?_
    refine x_m hA rfl fun ac hA => ?_
    obtain ⟨x10233, h10234, hF⟩ := bnd hF
    refine x_ia Tryd.underlying90 sz2 (hS.rdl 1 ha1 rfl) h10234 hA (fun ac hA => ?_) rfl rfl rfl rfl rfl rfl
    obtain ⟨cs, hV, hc10235⟩ := el (hS.rdl 1 ha1 rfl) h10234
    obtain rfl := hV
    refine x_ld Tryd.underlying2 (hc10235 0 _ rfl) hA (fun ac hA => ?_) rfl rfl rfl rfl rfl rfl
    obtain ⟨y10236, h10237, hF⟩ := bnd hF
    refine x_call en28 hA (F_column_Int (L := L) l9593 x10233 A9594 n9595 c9596 h10237 hS) (fun v ac w hR hA => ?_) rfl rfl rfl rfl rfl
    obtain ⟨B10238, m10239, d10240, rfl, hS⟩ := hR
    refine x_m hA rfl fun ac hA => ?_
    obtain ⟨x10241, h10242, hF⟩ := ltt_ hF
    refine x_v (v := .int .i64 x10241) hA (rv_i h10242 (r_sub rfl (hA.ev rfl) (hA.ev rfl))) rfl fun ac hA => ?_
    obtain ⟨x10243, h10244, hF⟩ := ltt_ hF
    refine x_v (v := .int .u64 x10243) hA (rv_i h10244 (r_convI Tryd.underlying3 Tryd.underlying31 rfl (hA.ev rfl))) rfl fun ac hA => ?_
    obtain ⟨y10245, h10246, hF⟩ := bnd hF
    refine x_call en48 hA (F_column_Uint (L := L) y10236 x10243 B10238 m10239 d10240 h10246 hS) (fun v ac w hR hA => ?_) rfl rfl rfl rfl rfl
    obtain ⟨B10247, m10248, d10249, rfl, hS⟩ := hR
    refine x_m hA rfl fun ac hA => ?_
    refine wn (hK10232 _ _ ?_)
    refine wp_reg ?_
    refine x_m hA rfl fun ac hA => ?_
    refine x_m hA rfl fun ac hA => ?_
    obtain ⟨x10250, h10251, hF⟩ := ltt_ hF
    refine x_v (v := .int .i64 x10250) hA (rv_i h10251 (r_add rfl (hA.ev rfl) (hA.ev rfl))) rfl fun ac hA => ?_
    refine x_m hA rfl fun ac hA => ?_
    refine wpList_nil ?_
    refine hKx9975 _ _ ?_
    cases hF
    exact ⟨_, N9970_ _ rfl, B10247, m10248, d10249, hA.sub _ rfl, hS⟩
   obtain ⟨t10307, hl10307, hF⟩ := bnd hF
   have hx10307_7 : ∀ (x10307 : Int), (x10307) = t10307 → ∀ (ac : Act) (w : World), FR 93 [] ac [(1, .slice A1 n1 c1), (5, .slice A9594 n9595 c9596), (11, .int .i64 x9597), (12, .int .i64 x10307)] → SH r (own (kI .u8) 5 A9594 n9595 c9596 l9593 :: L) w → Kx10147 ac w := by
    intro x10307 ht ac w hA hS
    subst ht
    replace hF : column_As_x4_7 a1 l9593 x9597 x10307 = some o9970 := hF
    unfold column_As_x4_7 at hF
    exact hb5 x10307 hF ac w (hA.sub _ rfl) hS
   refine wp_loop_fn hl10307 (fun s ac w => FR 93 [] ac [(1, .slice A1 n1 c1), (5, .slice A9594 n9595 c9596), (11, .int .i64 x9597), (12, .int .i64 s)] ∧ SH r (own (kI .u8) 5 A9594 n9595 c9596 l9593 :: L) w) ⟨hA.sub _ rfl, hS⟩ ?_
   intro N10307 s10307 o10307 hF N10307_ T10307_ ac w hLab
   obtain ⟨x10279, rfl⟩ : ∃ q, q = s10307 := ⟨_, rfl⟩
   replace hF : column_As_l4 a1 x9597 x10279 = some o10307 := hF
   unfold column_As_l4 at hF
   try dsimp only at hLab
   obtain ⟨hA, hS⟩ := hLab
   refine wp_seq_k fun K10309 hK10309 => ?_
   refine wp_seq_k fun K10310 hK10310 => ?_
   have hj1 : ∀ (b10320 : Bool), column_As_j1 x10279 b10320 = some o10307 → ∀ (ac : Act) (w : World), FR 93 [] ac [(1, .slice A1 n1 c1), (5, .slice A9594 n9595 c9596), (11, .int .i64 x9597), (12, .int .i64 x10279), (71, .bool b10320)] → SH r (own (kI .u8) 5 A9594 n9595 c9596 l9593 :: L) w → K10310 ac w := by
    intro b10320 hF ac w hA hS
    unfold column_As_j1 at hF
    refine hK10310 _ _ ?_
    refine c_if hA rfl (fun hb10321 => ?_) fun hb10321 => ?_
    ·replace hF := ift hb10321 hF
     refine wp_skip ?_
     refine hK10309 _ _ ?_
     refine wp_block_k fun Kx10322 hKx10322 => ?_
     refine wp_reg ?_
     refine x_m hA rfl fun ac hA => ?_
     obtain ⟨x10323, h10324, hF⟩ := ltt_ hF
     refine x_v (v := .int .i64 x10323) hA (rv_i h10324 (r_add rfl (hA.ev rfl) (hA.ev rfl))) rfl fun ac hA => ?_
     refine x_m hA rfl fun ac hA => ?_
     refine wpList_nil ?_
     refine hKx10322 _ _ ?_
     cases hF
     exact ⟨_, N10307_ _ rfl, hA.sub _ rfl, hS⟩
    replace hF := iff' hb10321 hF
    refine wp_exit ?_
    cases hF
    exact hx10307_7 x10279 (T10307_ _ rfl) ac w (hA.sub _ rfl) hS
   refine wp_draw [0, 0, 3, 0, 8, 31, 63, 127, 127, 127, 895, 2047, 4095, 127, 127, 24703, 57471, 131071, 262143] [] rfl hA hS (by kernel_rfl) (by kernel_rfl) (by kernel_rfl) (by kernel_rfl) fun w hS => ?_
   obtain ⟨x10325, h10326, hF⟩ := ltt_ hF
   refine bcase (b := decide (x10325 < (a1.length : Int))) (fun hb10327 => ?_) fun hb10327 => ?_
   ·replace hF := ift hb10327 hF
    obtain ⟨x10328, h10329, hF⟩ := bnd hF
    obtain ⟨cs, hV, hc10330⟩ := el (hS.rdl 1 ha1 rfl) h10329
    obtain rfl := hV
    obtain ⟨x10331, h10332, hF⟩ := bnd hF
    obtain ⟨cs, hV, hc10333⟩ := el (hS.rdl 1 ha1 rfl) h10332
    obtain rfl := hV
    refine ⟨[(0, .int .i64 x9597), (1, .int .i64 x10279), (2, .int .i64 x10325), (3, .slice A1 n1 c1), (4, .int .i64 (a1.length : Int)), (5, .bool (decide (x10325 < (a1.length : Int)))), (6, .bool (decide (x10325 < (a1.length : Int)))), (7, .slice A1 n1 c1), (8, .int .i64 x9597), (9, .int .i64 x10279), (10, .int .i64 x10325), (11, .pointer (some (ea A1 (x10325.toNat * 1)))), (12, .int .i64 x10328), (13, .slice A1 n1 c1), (14, .int .i64 x9597), (15, .pointer (some (ea A1 (x9597.toNat * 1)))), (16, .int .i64 x10331), (17, .bool (x10328 == x10331)), (18, .bool (x10328 == x10331))], ?_⟩
    refine dEnd [0, 1, 2, 3, 4, 5, 6, 7, 8, 9, 10, 11, 12, 13, 14, 15, 16, 17, 18] (by kernel_rfl) ⟨pu rfl rfl [(11, .int .i64 x9597)] (fun ac hA => y_move hA rfl rfl) rfl rfl, pu rfl rfl [(12, .int .i64 x10279)] (fun ac hA => y_move hA rfl rfl) rfl rfl, pu rfl rfl [(53, .int .i64 x9597), (54, .int .i64 x10279)] (fun ac hA => (rv_i h10326 (r_add rfl (hA.ev rfl) (hA.ev rfl)) : RunV _ _ _ _ (.int .i64 x10325))) rfl rfl, pu rfl rfl [(1, .slice A1 n1 c1)] (fun ac hA => y_move hA rfl rfl) rfl rfl, pu rfl rfl [(56, .slice A1 n1 c1)] (fun ac hA => y_len Tryd.underlying90 (hS.rdl 1 ha1 rfl).2.1 hA rfl rfl) rfl rfl, pu rfl rfl [(55, .int .i64 x10325), (57, .int .i64 (a1.length : Int))] (fun ac hA => r_ltI rfl (hA.ev rfl) (hA.ev rfl)) rfl rfl, pu rfl rfl [(58, .bool (decide (x10325 < (a1.length : Int))))] (fun ac hA => y_move hA rfl rfl) rfl rfl, puOn rfl rfl rfl rfl [(1, .slice A1 n1 c1), (59, .bool (decide (x10325 < (a1.length : Int))))] rfl hb10327 (fun ac hA => y_move hA rfl rfl) rfl, puOn rfl rfl rfl rfl [(11, .int .i64 x9597), (59, .bool (decide (x10325 < (a1.length : Int))))] rfl hb10327 (fun ac hA => y_move hA rfl rfl) rfl, puOn rfl rfl rfl rfl [(12, .int .i64 x10279), (59, .bool (decide (x10325 < (a1.length : Int))))] rfl hb10327 (fun ac hA => y_move hA rfl rfl) rfl, puOn rfl rfl rfl rfl [(59, .bool (decide (x10325 < (a1.length : Int)))), (61, .int .i64 x9597), (62, .int .i64 x10279)] rfl hb10327 (fun ac hA => (rv_i h10326 (r_add rfl (hA.ev rfl) (hA.ev rfl)) : RunV _ _ _ _ (.int .i64 x10325))) rfl, puOn rfl rfl rfl rfl [(59, .bool (decide (x10325 < (a1.length : Int)))), (60, .slice A1 n1 c1), (63, .int .i64 x10325)] rfl hb10327 (fun ac hA => y_ia Tryd.underlying90 sz2 (hS.rdl 1 ha1 rfl) h10329 hA rfl rfl rfl) rfl, puOn rfl rfl rfl rfl [(59, .bool (decide (x10325 < (a1.length : Int)))), (64, .pointer (some (ea A1 (x10325.toNat * 1))))] rfl hb10327 (fun ac hA => y_ld Tryd.underlying2 (hc10330 0 _ rfl) hA rfl rfl rfl) rfl, puOn rfl rfl rfl rfl [(1, .slice A1 n1 c1), (59, .bool (decide (x10325 < (a1.length : Int))))] rfl hb10327 (fun ac hA => y_move hA rfl rfl) rfl, puOn rfl rfl rfl rfl [(11, .int .i64 x9597), (59, .bool (decide (x10325 < (a1.length : Int))))] rfl hb10327 (fun ac hA => y_move hA rfl rfl) rfl, puOn rfl rfl rfl rfl [(59, .bool (decide (x10325 < (a1.length : Int)))), (66, .slice A1 n1 c1), (67, .int .i64 x9597)] rfl hb10327 (fun ac hA => y_ia Tryd.underlying90 sz2 (hS.rdl 1 ha1 rfl) h10332 hA rfl rfl rfl) rfl, puOn rfl rfl rfl rfl [(59, .bool (decide (x10325 < (a1.length : Int)))), (68, .pointer (some (ea A1 (x9597.toNat * 1))))] rfl hb10327 (fun ac hA => y_ld Tryd.underlying2 (hc10333 0 _ rfl) hA rfl rfl rfl) rfl, puOn rfl rfl rfl rfl [(59, .bool (decide (x10325 < (a1.length : Int)))), (65, .int .i64 x10328), (69, .int .i64 x10331)] rfl hb10327 (fun ac hA => r_eqI rfl (hA.ev rfl) (hA.ev rfl)) rfl, pu rfl rfl [(59, .bool (decide (x10325 < (a1.length : Int)))), (70, .bool (x10328 == x10331))] (fun ac hA => y_pickt hb10327 hA rfl rfl rfl) rfl rfl, trivial⟩ ⟨by kernel_rfl, by kernel_rfl⟩ [(1, .slice A1 n1 c1), (5, .slice A9594 n9595 c9596), (11, .int .i64 x9597), (12, .int .i64 x10279), (60, .slice A1 n1 c1), (61, .int .i64 x9597), (62, .int .i64 x10279), (63, .int .i64 x10325), (65, .int .i64 x10328), (66, .slice A1 n1 c1), (67, .int .i64 x9597), (69, .int .i64 x10331), (70, .bool (x10328 == x10331)), (71, .bool (x10328 == x10331))] rfl (fun ac hA => ?_)
    exact hj1 (x10328 == x10331) hF ac w (hA.sub _ rfl) hS
   replace hF := iff' hb10327 hF
   refine ⟨[(0, .int .i64 x9597), (1, .int .i64 x10279), (2, .int .i64 x10325), (3, .slice A1 n1 c1), (4, .int .i64 (a1.length : Int)), (5, .bool (decide (x10325 < (a1.length : Int)))), (6, .bool (decide (x10325 < (a1.length : Int)))), (7, undef), (8, undef), (9, undef), (10, undef), (11, undef), (12, undef), (13, undef), (14, undef), (15, undef), (16, undef), (17, undef), (18, .bool false)], ?_⟩
   refine dEnd [0, 1, 2, 3, 4, 5, 6, 7, 8, 9, 10, 11, 12, 13, 14, 15, 16, 17, 18] (by kernel_rfl) ⟨pu rfl rfl [(11, .int .i64 x9597)] (fun ac hA => y_move hA rfl rfl) rfl rfl, pu rfl rfl [(12, .int .i64 x10279)] (fun ac hA => y_move hA rfl rfl) rfl rfl, pu rfl rfl [(53, .int .i64 x9597), (54, .int .i64 x10279)] (fun ac hA => (rv_i h10326 (r_add rfl (hA.ev rfl) (hA.ev rfl)) : RunV _ _ _ _ (.int .i64 x10325))) rfl rfl, pu rfl rfl [(1, .slice A1 n1 c1)] (fun ac hA => y_move hA rfl rfl) rfl rfl, pu rfl rfl [(56, .slice A1 n1 c1)] (fun ac hA => y_len Tryd.underlying90 (hS.rdl 1 ha1 rfl).2.1 hA rfl rfl) rfl rfl, pu rfl rfl [(55, .int .i64 x10325), (57, .int .i64 (a1.length : Int))] (fun ac hA => r_ltI rfl (hA.ev rfl) (hA.ev rfl)) rfl rfl, pu rfl rfl [(58, .bool (decide (x10325 < (a1.length : Int))))] (fun ac hA => y_move hA rfl rfl) rfl rfl, puOff rfl rfl rfl rfl [(1, .slice A1 n1 c1), (59, .bool (decide (x10325 < (a1.length : Int))))] rfl hb10327 rfl, puOff rfl rfl rfl rfl [(11, .int .i64 x9597), (59, .bool (decide (x10325 < (a1.length : Int))))] rfl hb10327 rfl, puOff rfl rfl rfl rfl [(12, .int .i64 x10279), (59, .bool (decide (x10325 < (a1.length : Int))))] rfl hb10327 rfl, puOff rfl rfl rfl rfl [(59, .bool (decide (x10325 < (a1.length : Int)))), (61, undef), (62, undef)] rfl hb10327 rfl, puOff rfl rfl rfl rfl [(59, .bool (decide (x10325 < (a1.length : Int)))), (60, undef), (63, undef)] rfl hb10327 rfl, puOff rfl rfl rfl rfl [(59, .bool (decide (x10325 < (a1.length : Int)))), (64, undef)] rfl hb10327 rfl, puOff rfl rfl rfl rfl [(1, .slice A1 n1 c1), (59, .bool (decide (x10325 < (a1.length : Int))))] rfl hb10327 rfl, puOff rfl rfl rfl rfl [(11, .int .i64 x9597), (59, .bool (decide (x10325 < (a1.length : Int))))] rfl hb10327 rfl, puOff rfl rfl rfl rfl [(59, .bool (decide (x10325 < (a1.length : Int)))), (66, undef), (67, undef)] rfl hb10327 rfl, puOff rfl rfl rfl rfl [(59, .bool (decide (x10325 < (a1.length : Int)))), (68, undef)] rfl hb10327 rfl, puOff rfl rfl rfl rfl [(59, .bool (decide (x10325 < (a1.length : Int)))), (65, undef), (69, undef)] rfl hb10327 rfl, pu rfl rfl [(59, .bool (decide (x10325 < (a1.length : Int)))), (70, undef)] (fun ac hA => y_pickf hb10327 hA rfl rfl rfl) rfl rfl, trivial⟩ ⟨by kernel_rfl, by kernel_rfl⟩ [(1, .slice A1 n1 c1), (5, .slice A9594 n9595 c9596), (11, .int .i64 x9597), (12, .int .i64 x10279), (71, .bool false)] rfl (fun ac hA => ?_)
   exact hj1 false hF ac w (hA.sub _ rfl) hS
  replace hF := iff' hb9974 hF
  refine wp_exit ?_
  cases hF
  exact hx9970_5 l9593 (T9970_ _ rfl) A9594 n9595 c9596 ac w (hA.sub _ rfl) hS
 replace hF := iff' hb8105 hF
 refine ws fun K10334 hK10334 => ?_
 refine x_v hA (r_eqI rfl (hA.ev rfl) (hA.ev rfl)) rfl fun ac hA => ?_
 refine x_m hA rfl fun ac hA => ?_
 refine wn (hK10334 _ _ ?_)
 refine c_if hA rfl (fun hb10335 => ?_) fun hb10335 => ?_
 ·replace hF := ift hb10335 hF
  refine wp_reg ?_
  refine x_m hA rfl fun ac hA => ?_
  refine x_m hA rfl fun ac hA => ?_
  obtain ⟨y10336, h10337, hF⟩ := bnd hF
  refine x_call en83 hA (F_column_pack (L := L) y106 a1 B108 m109 d110 A1 n1 c1 h10337 (RdL.sfx 0 rfl ha1) hS) (fun v ac w hR hA => ?_) rfl rfl rfl rfl rfl
  obtain ⟨B10338, m10339, d10340, rfl, hS⟩ := hR
  refine x_m hA rfl fun ac hA => ?_
  refine wpList_nil ?_
  exact hb1 y10336 hF B10338 m10339 d10340 ac w (hA.sub _ rfl) hS
 replace hF := iff' hb10335 hF
 refine wp_skip ?_
 exact hb1 y106 hF B108 m109 d110 ac w (hA.sub _ rfl) hS
theorem F_column_Ints {r : World} {L : List HP} {w : World} (a0 : (List Int)) (A0 : Option Addr) (n0 : Nat) (c0 : Nat) {y : ((List Int))} (hF : column_Ints a0 = some y) (ha0 : RdL L (kI .i64) A0 n0 c0 a0) (hS : SH r (L) w) :
  Ret Tryd.prog 45 #[.slice A0 n0 c0] w fun v w' => ∃ (B0 : Option Addr) (m0 : Nat) (d0 : Nat), v = .slice B0 m0 d0 ∧ SH r (own (kI .u8) 5 B0 m0 d0 y :: L) w' := by
 refine enter Tryd.func45 rfl Tryd.ntmps45 [(0, .slice A0 n0 c0)] rfl (by simp) ?_
 intro ac hA Qf hQ hQn
 unfold column_Ints at hF
 refine ws fun K101 hK101 => ?_
 refine x_m hA rfl fun ac hA => ?_
 refine wn (hK101 _ _ ?_)
 refine ws fun K102 hK102 => ?_
 refine x_m hA rfl fun ac hA => ?_
 obtain ⟨y103, h104, hF⟩ := bnd hF
 refine x_call en68 hA (F_column_As (L := L) 0 a0 A0 n0 c0 h104 (RdL.sfx 0 rfl ha0) hS) (fun v ac w hR hA => ?_) rfl rfl rfl rfl rfl
 obtain ⟨B105, m106, d107, rfl, hS⟩ := hR
 refine x_m hA rfl fun ac hA => ?_
 refine wn (hK102 _ _ ?_)
 refine wp_seq_k fun K108 hK108 => ?_
 refine ws fun K456 hK456 => ?_
 refine x_m hA rfl fun ac hA => ?_
 refine wn (hK456 _ _ ?_)
 refine wp_block_k fun Kx457 hKx457 => ?_
 have hb1 : ∀ (l628 : (List Int)), column_Ints_b1 l628 = some y → ∀ (A629 : Option Addr) (n630 : Nat) (c631 : Nat) (ac : Act) (w : World), FR 22 [] ac [(3, .slice A629 n630 c631)] → SH r (own (kI .u8) 5 A629 n630 c631 l628 :: L) w → Kx457 ac w := by
  intro l628 hF A629 n630 c631 ac w hA hS
  unfold column_Ints_b1 at hF
  refine hKx457 _ _ ?_
  refine hK108 _ _ ?_
  refine ws fun K632 hK632 => ?_
  refine x_m hA rfl fun ac hA => ?_
  refine x_m hA rfl fun ac hA => ?_
  refine wn (hK632 _ _ ?_)
  refine wp_ret ?_
  cases hF
  refine hQ _ _ ?_
  refine lv Tryd.results45 hA rfl ?_
  exact ⟨A629, n630, c631, rfl, hS⟩
 obtain ⟨t751, hl751, hF⟩ := bnd hF
 have hx751_0 : ∀ (l748 : (List Int)), (l748) = t751 → ∀ (A749 : Option Addr) (n750 : Nat) (c751 : Nat) (ac : Act) (w : World), FR 22 [] ac [(3, .slice A749 n750 c751)] → SH r (own (kI .u8) 5 A749 n750 c751 l748 :: L) w → Kx457 ac w := by
  intro l748 ht A749 n750 c751 ac w hA hS
  subst ht
  replace hF : column_Ints_x1_0 l748 = some y := hF
  unfold column_Ints_x1_0 at hF
  exact hb1 l748 hF A749 n750 c751 ac w (hA.sub _ rfl) hS
 refine wp_loop_fn hl751 (fun s ac w => ∃ (A689 : Option Addr) (n690 : Nat) (c691 : Nat), FR 22 [] ac [(0, .slice A0 n0 c0), (3, .slice A689 n690 c691), (4, .int .u8 s.2)] ∧ SH r (own (kI .u8) 5 A689 n690 c691 s.1 :: L) w) ⟨B105, m106, d107, hA.sub _ rfl, hS⟩ ?_
 intro N751 s751 o751 hF N751_ T751_ ac w hLab
 obtain ⟨l688, x692⟩ := s751
 replace hF : column_Ints_l1 a0 l688 x692 = some o751 := hF
 unfold column_Ints_l1 at hF
 try dsimp only at hLab
 obtain ⟨A689, n690, c691, hA, hS⟩ := hLab
 refine wp_seq_k fun K753 hK753 => ?_
 refine ws fun K754 hK754 => ?_
 refine x_m hA rfl fun ac hA => ?_
 refine x_v hA (r_leI rfl (hA.ev rfl) (hA.ev rfl)) rfl fun ac hA => ?_
 refine wn (hK754 _ _ ?_)
 refine c_if hA rfl (fun hb755 => ?_) fun hb755 => ?_
 ·replace hF := ift hb755 hF
  refine wp_skip ?_
  refine hK753 _ _ ?_
  refine wp_seq_k fun K756 hK756 => ?_
  refine wp_block_k fun Kx779 hKx779 => ?_
  have hb2 : ∀ (l788 : (List Int)), column_Ints_b2 x692 l788 = some o751 → ∀ (A789 : Option Addr) (n790 : Nat) (c791 : Nat) (ac : Act) (w : World), FR 22 [] ac [(0, .slice A0 n0 c0), (3, .slice A789 n790 c791), (4, .int .u8 x692)] → SH r (own (kI .u8) 5 A789 n790 c791 l788 :: L) w → Kx779 ac w := by
   intro l788 hF A789 n790 c791 ac w hA hS
   unfold column_Ints_b2 at hF
   refine hKx779 _ _ ?_
   refine hK756 _ _ ?_
   refine wp_reg ?_
   refine x_m hA rfl fun ac hA => ?_
   obtain ⟨x792, h793, hF⟩ := ltt_ hF
   refine x_v (v := .int .u8 x792) hA (rv_i h793 (r_add rfl (hA.ev rfl) (hA.ev rfl))) rfl fun ac hA => ?_
   refine x_m hA rfl fun ac hA => ?_
   refine wpList_nil ?_
   cases hF
   exact ⟨_, N751_ _ rfl, A789, n790, c791, hA.sub _ rfl, hS⟩
  refine ws fun K794 hK794 => ?_
  refine x_m hA rfl fun ac hA => ?_
  refine x_m hA rfl fun ac hA => ?_
  obtain ⟨y795, h796, hF⟩ := bnd hF
  refine x_call en68 hA (F_column_As (L := own (kI .u8) 5 A689 n690 c691 l688 :: L) x692 a0 A0 n0 c0 h796 (RdL.sfx 1 rfl ha0) hS) (fun v ac w hR hA => ?_) rfl rfl rfl rfl rfl
  obtain ⟨B797, m798, d799, rfl, hS⟩ := hR
  refine x_m hA rfl fun ac hA => ?_
  refine wn (hK794 _ _ ?_)
  refine ws fun K800 hK800 => ?_
  refine x_m hA rfl fun ac hA => ?_
  refine x_len Tryd.underlying24 (hS.rd 0 rfl).2.1 hA (fun ac hA => ?_) rfl rfl rfl rfl rfl
  refine x_m hA rfl fun ac hA => ?_
  refine x_len Tryd.underlying24 (hS.rd 1 rfl).2.1 hA (fun ac hA => ?_) rfl rfl rfl rfl rfl
  refine x_v hA (r_ltI rfl (hA.ev rfl) (hA.ev rfl)) rfl fun ac hA => ?_
  refine wn (hK800 _ _ ?_)
  refine c_if hA rfl (fun hb801 => ?_) fun hb801 => ?_
  ·replace hF := ift hb801 hF
   refine wp_reg ?_
   refine x_m hA rfl fun ac hA => ?_
   refine x_m hA rfl fun ac hA => ?_
   refine wpList_nil ?_
   replace hS := hS.drop 1
   exact hb2 y795 hF B797 m798 d799 ac w (hA.sub _ rfl) hS
  replace hF := iff' hb801 hF
  refine wp_skip ?_
  replace hS := hS.drop 0
  exact hb2 l688 hF A689 n690 c691 ac w (hA.sub _ rfl) hS
 replace hF := iff' hb755 hF
 refine wp_exit ?_
 cases hF
 exact hx751_0 l688 (T751_ _ rfl) A689 n690 c691 ac w (hA.sub _ rfl) hS
end Go.Proofs.YteodeedejjcmgaaDoor.M
namespace Go.Proofs.YteodeedejjcmgaaDoor.M
open Go Go.RowKit Go.Proofs.YteodeedejjcmgaaDoor.E
set_option linter.unusedVariables false
set_option linter.unusedSimpArgs false
theorem catch_pan {r : World} {L : List HP} {g : Nat} {b : Bool} {w : World} (hS : SH r (blk g 4 [.bool b] :: L) w) :
    CallsD Tryd.prog 57 #[.pointer (some ⟨g, 0, none⟩)] (.panicking badC) w fun e u' w' => e = .returned (.tuple #[]) ∧ u' = .panicking [{ v := .iface 102 (.agg #[]), recovered := true }] ∧ SH r (blk g 4 [.bool false] :: L) w' := by
  refine callsD_of_wpS Tryd.func57 rfl fun c₀ cs hu => ?_
  apply wpS_seq
  apply wpS_region
  simp only [List.size_toArray, List.length_cons, List.length_nil, Nat.zero_add]
  rw [show List.range (1 + 1) = [0, 1] from rfl]
  simp [wpOpsS, go_sem, recoverD, hu, badC, Tryd.ntmps57, Exit.thenS]
  generalize hac : ({ tmps := _, defers := _ } : Act) = ac
  have hA : FR 15 [] ac [(0, .pointer (some ⟨g, 0, none⟩)), (1, .iface 102 (.agg #[]))] := by
    subst hac
    refine ⟨by simp, rfl, fun t v hv => ?_⟩
    simp only [lk] at hv
    by_cases e0 : t = 0
    · subst e0; cases hv; rfl
    by_cases e1 : t = 1
    · subst e1; cases hv; rfl
    · exfalso
      rw [show Nat.beq 0 t = false by cases h : Nat.beq 0 t; rfl; exact absurd (Nat.eq_of_beq_eq_true h).symm e0, show Nat.beq 1 t = false by cases h : Nat.beq 1 t; rfl; exact absurd (Nat.eq_of_beq_eq_true h).symm e1] at hv
      cases hv
  clear hac
  refine wpS_of_wp ?_
  have fin : ∀ (a : Act) (w : World), FR 15 [] a [] → SH r (blk g 4 [.bool false] :: L) w → bodyPostS Tryd.prog Tryd.f57 c₀ cs (fun e u' w' => e = .returned (.tuple #[]) ∧ u' = .panicking [{ v := .iface 102 (.agg #[]), recovered := true }] ∧ SH r (blk g 4 [.bool false] :: L) w') .normal a ({ c₀ with mode := .panicking [{ v := .iface 102 (.agg #[]), recovered := true }] } :: cs) w := by
    intro a w hA hS
    exact ⟨hA.defers, _, rfl, _, results_none Tryd.results57 _ _ _, rfl, rfl, hS⟩
  refine wp_seq_k fun K1 h1 => ?_
  refine wp_reg ?_
  refine x_move hA (fun ac hA => ?_)
  refine x_val (v := .bool true) hA (r_neIfNil Tryd.underlying20 rfl (hA.ev rfl) (hA.ev rfl)) (fun ac hA => ?_)
  refine wpList_nil ?_
  refine h1 _ _ ?_
  refine c_t (b := true) rfl hA ?_
  refine wp_seq_k fun K4 h4 => ?_
  refine wp_seq_k fun K2 h2 => ?_
  refine wp_reg ?_
  refine x_move hA (fun ac hA => ?_)
  refine x_val (v := .tuple #[.agg #[], .bool true]) hA (r_typeAssert Tryd.underlying102 rfl rfl (hA.ev rfl)) (fun ac hA => ?_)
  refine x_move hA (fun ac hA => ?_)
  refine x_val hA (r_extract rfl (hA.ev rfl) rfl) (fun ac hA => ?_)
  refine x_val hA (r_extract rfl (hA.ev rfl) rfl) (fun ac hA => ?_)
  refine x_alloc (cs := []) zr102 hA hS (fun g2 ac w hS hA => ?_)
  refine x_stb (vs := []) 0 sz102 hA hS rfl (fun ac w hS hA => ?_)
  refine x_assign hA (fun ac hA => ?_)
  refine wpList_nil ?_
  refine h2 _ _ ?_
  refine wp_seq_k fun K3 h3 => ?_
  refine wp_reg ?_
  refine x_move hA (fun ac hA => ?_)
  refine x_val hA (r_not rfl (hA.ev rfl)) (fun ac hA => ?_)
  refine wpList_nil ?_
  refine h3 _ _ ?_
  refine c_f (b := !true) rfl hA ?_
  refine wp_skip ?_
  refine h4 _ _ ?_
  refine wp_reg ?_
  refine x_stb (vs := [.bool false]) 1 sz4 hA hS rfl (fun ac w hS hA => ?_)
  refine wpList_nil ?_
  have hS' := hS.pk 1
  exact fin _ _ (hA.sub _ rfl) (hS'.tail)
theorem catch_idle {g : Nat} {w : World} :
    CallsD Tryd.prog 57 #[.pointer (some ⟨g, 0, none⟩)] .returning w fun e u' w' => e = .returned (.tuple #[]) ∧ u' = .returning ∧ w' = w := by
  refine callsD_of_wpS Tryd.func57 rfl fun c₀ cs hu => ?_
  apply wpS_seq
  apply wpS_region
  simp only [List.size_toArray, List.length_cons, List.length_nil, Nat.zero_add]
  rw [show List.range (1 + 1) = [0, 1] from rfl]
  simp [wpOpsS, go_sem, recoverD, hu, Tryd.ntmps57, Exit.thenS]
  generalize hac : ({ tmps := _, defers := _ } : Act) = ac
  have hA : FR 15 [] ac [(0, .pointer (some ⟨g, 0, none⟩)), (1, .nilIface)] := by
    subst hac
    refine ⟨by simp, rfl, fun t v hv => ?_⟩
    simp only [lk] at hv
    by_cases e0 : t = 0
    · subst e0; cases hv; rfl
    by_cases e1 : t = 1
    · subst e1; cases hv; rfl
    · exfalso
      rw [show Nat.beq 0 t = false by cases h : Nat.beq 0 t; rfl; exact absurd (Nat.eq_of_beq_eq_true h).symm e0, show Nat.beq 1 t = false by cases h : Nat.beq 1 t; rfl; exact absurd (Nat.eq_of_beq_eq_true h).symm e1] at hv
      cases hv
  clear hac
  refine wpS_of_wp ?_
  refine wp_seq_k fun K1 h1 => ?_
  refine wp_reg ?_
  refine x_move hA (fun ac hA => ?_)
  refine x_val (v := .bool false) hA (r_neNilIf Tryd.underlying20 rfl (hA.ev rfl)) (fun ac hA => ?_)
  refine wpList_nil ?_
  refine h1 _ _ ?_
  refine c_f (b := false) rfl hA ?_
  refine wp_skip ?_
  refine ⟨hA.defers, c₀.mode, rfl, _, results_none Tryd.results57 _ _ _, rfl, hu, rfl⟩
theorem results_bool {r : World} {L : List HP} {w : World} {g : Nat} {b : Bool} {a : Act} {n : Nat} {D : List Deferred} {F : List (Nat × Value)} (hA : FR n D a F) (h1 : lk F 4 = some (.pointer (some ⟨g, 0, none⟩))) (hS : SH r (blk g 4 [.bool b] :: L) w) :
    (results Tryd.f39 a.tmps).run Tryd.prog w = .ok (.bool b) w := by
  have e1 : a.tmps.getD 4 undef = .pointer (some ⟨g, 0, none⟩) := hA.ev (x := .tmp 4) h1
  have e1' : a.tmps[4]?.getD undef = .pointer (some ⟨g, 0, none⟩) := by rw [← Array.getD_eq_getD_getElem?]; exact e1
  have hc := hS.cell 0 rfl 0 (.bool b) rfl
  have hagg : (isAgg 4).run Tryd.prog w = .ok false w := by rw [run_isAgg_flat Tryd.underlying4]; rfl
  have hld : (loadVar 4 ⟨g, 0, none⟩).run Tryd.prog w = .ok (.bool b) w := by simp [loadVar, hagg, hc]
  simp [results, Tryd.results39, e1', asAddr, hld]
section
variable {r : World} {L : List HP} {w : World} {A : Option Addr} {n c f : Nat} {fs caps : Array Value}
theorem try_walk {R : Value → World → Prop} (hf : EN Tryd.prog f) (hS : SH r L w)
    (hret : ∀ g g4 w1, SH r (blk g 106 [.slice A n c] :: blk g4 4 [.bool false] :: L) w1 →
      (Ret Tryd.prog f (fs ++ #[.pointer (some ⟨g, 0, none⟩)] ++ caps) w1 fun v w2 => ∃ L1 A' n' c', SH r (blk g 106 [.slice A' n' c'] :: blk g4 4 [.bool false] :: L1) w2 ∧ ∀ w3, SH r L1 w3 → R (.bool ((n' : Int) == 0)) w3) ∨
      (Calls Tryd.prog f (fs ++ #[.pointer (some ⟨g, 0, none⟩)] ++ caps) w1 fun e w2 => e = .panicked badC ∧ ∃ L1, SH r (blk g4 4 [.bool false] :: L1) w2 ∧ ∀ w3, SH r L1 w3 → R (.bool false) w3)) :
    Ret Tryd.prog 39 #[.slice A n c, .func (.func f) fs caps] w R := by
  refine enterD Tryd.func39 rfl Tryd.ntmps39 [(0, .slice A n c), (1, .func (.func f) fs caps)] rfl (by simp) ?_
  intro ac hA
  refine wp_seq_k fun K0 h0 => ?_
  refine wp_reg ?_
  refine x_alloc (cs := [.bool false]) zr4 hA hS (fun g4 ac w hS hA => ?_)
  refine wpList_nil ?_
  refine h0 _ _ ?_
  refine wp_seq_k fun K1 h1 => ?_
  refine wp_reg ?_
  refine x_val hA (r_makeFunc rfl (mapev (vals := #[]) hA rfl) (mapev (vals := #[.pointer (some ⟨g4, 0, none⟩)]) hA rfl)) (fun ac hA => ?_)
  refine x_defer (vs := #[]) hA (fun ac hA => ?_)
  refine wpList_nil ?_
  refine h1 _ _ ?_
  refine wp_seq_k fun K2 h2 => ?_
  refine wp_reg ?_
  refine x_move hA (fun ac hA => ?_)
  refine x_val (v := .agg #[.slice A n c]) hA (r_build (ps := #[(0, .slice A n c)]) rfl (mapev2 hA rfl) (fun w => by kernel_rfl)) (fun ac hA => ?_)
  refine x_box hA hS (fun g ac w hS hA => ?_)
  refine x_assign hA (fun ac hA => ?_)
  refine wpList_nil ?_
  refine h2 _ _ ?_
  refine wp_seq_k fun K3 h3 => ?_
  refine wp_reg ?_
  refine x_move hA (fun ac hA => ?_)
  refine x_move hA (fun ac hA => ?_)
  rcases hret g g4 w hS with hr | hp
  · refine x_callw (vs := #[.pointer (some ⟨g, 0, none⟩)]) hf hA hr (fun v ac w hR hA => ?_)
    obtain ⟨L1, A', n', c', hS, hR⟩ := hR
    refine wpList_nil ?_
    refine h3 _ _ ?_
    refine wp_seq_k fun K4 h4 => ?_
    refine wp_reg ?_
    refine x_move hA (fun ac hA => ?_)
    refine x_val hA (r_nilCheck rfl (hA.ev rfl)) (fun ac hA => ?_)
    refine x_fab fa106_0 hA (fun ac hA => ?_)
    refine x_ld Tryd.underlying24 (hS.cell 0 rfl 0 _ rfl) hA (fun ac hA => ?_)
    refine x_val hA (r_len Tryd.underlying24 rfl (hA.ev rfl)) (fun ac hA => ?_)
    refine x_val hA (r_eqI rfl (hA.ev rfl) (hA.ev rfl)) (fun ac hA => ?_)
    refine x_stb (vs := [.bool ((n' : Int) == 0)]) 1 sz4 hA hS rfl (fun ac w hS hA => ?_)
    refine wpList_nil ?_
    refine h4 _ _ ?_
    refine wp_ret ?_
    show Leaves _ _ _ _ _ _ _
    rw [hA.defers]
    refine leaves_cons (f := 57) (args := #[.pointer (some ⟨g4, 0, none⟩)]) (by simp) (by simp [invoke, (en57 _ _ : _ = _)]) ?_
    refine CallsD.mono catch_idle ?_
    rintro e u' w' ⟨rfl, rfl, rfl⟩
    exact ⟨_, results_bool hA rfl hS, _, rfl, hR _ (hS.tail.tail)⟩
  · refine x_callp (vs := #[.pointer (some ⟨g, 0, none⟩)]) hf hA hp (fun w hR => ?_)
    obtain ⟨L1, hS, hR⟩ := hR
    show Leaves _ _ _ _ _ _ _
    rw [hA.defers]
    refine leaves_cons (f := 57) (args := #[.pointer (some ⟨g4, 0, none⟩)]) (by simp) (by simp [invoke, (en57 _ _ : _ = _)]) ?_
    refine CallsD.mono (catch_pan hS) ?_
    rintro e u' w' ⟨rfl, rfl, hS⟩
    exact ⟨_, results_bool hA rfl hS, _, rfl, hR _ hS.tail⟩
end
end Go.Proofs.YteodeedejjcmgaaDoor.M
namespace Go.Proofs.YteodeedejjcmgaaDoor.M
open Go Go.RowKit Go.Proofs.YteodeedejjcmgaaDoor.E
set_option linter.unusedVariables false
set_option linter.unusedSimpArgs false
noncomputable def column_Reader_Check (a0 : S106) (a1 : Bool) : Option ((S106) ⊕ (S106)) :=
  if (!a1) = true then (some (.inr a0)) else (some (.inl a0))
noncomputable def column_Reader_Byte (a0 : S106) : Option ((Int × S106) ⊕ (S106)) :=
  (column_Reader_Check a0 (decide (0 < (a0.f0.length : Int)))).bind fun y107 => (sum_ y107 (fun y107 => ((at_ y107.f0 0).bind fun x118 => ((cut_ y107.f0 1 (y107.f0.length : Int)).bind fun l122 => (some (.inl (x118, (⟨l122⟩ : S106))))))) (fun y107 => (some (.inr y107))))
noncomputable def column_Reader_Uint_j2 (x536 : Int) (l573 : (List Int)) : Option (((List Int) × Int × Int) ⊕ (((Int × S106) ⊕ (S106)))) :=
  some (.inr (.inl (x536, (⟨l573⟩ : S106))))
noncomputable def column_Reader_Uint_j1 (a1 : Int) (x293 : Int) (x294 : Int) (y478 : (Int × S106)) (l521 : (List Int)) : Option (((List Int) × Int × Int) ⊕ (((Int × S106) ⊕ (S106)))) :=
  ltt (iand .u8 y478.1 127) fun x527 => (ltt (IntKind.u64.wrap x527) fun x529 => (ltt (IntKind.i64.wrap (7 * x294)) fun x531 => (chk (0 ≤ x531) (ltt (ishl .u64 x529 x531) fun x534 => (ltt (ior .u64 x293 x534) fun x536 => (if (decide (y478.1 < 128)) = true then (if (decide (x536 ≤ a1)) = true then (if (x294 == 0) = true then ((column_Reader_Check (⟨l521⟩ : S106) true).bind fun y581 => (sum_ y581 (fun y581 => (column_Reader_Uint_j2 x536 y581.f0)) (fun y581 => (some (.inr (.inr y581)))))) else ((column_Reader_Check (⟨l521⟩ : S106) (decide (0 < y478.1))).bind fun y591 => (sum_ y591 (fun y591 => (column_Reader_Uint_j2 x536 y591.f0)) (fun y591 => (some (.inr (.inr y591))))))) else ((column_Reader_Check (⟨l521⟩ : S106) false).bind fun y601 => (sum_ y601 (fun y601 => (column_Reader_Uint_j2 x536 y601.f0)) (fun y601 => (some (.inr (.inr y601))))))) else (ltt (IntKind.i64.wrap (x294 + 1)) fun x611 => (some (.inl (l521, x536, x611))))))))))
noncomputable def column_Reader_Uint_l1 (a1 : Int) (l288 : (List Int)) (x293 : Int) (x294 : Int) : Option (((List Int) × Int × Int) ⊕ (((Int × S106) ⊕ (S106)))) :=
  (column_Reader_Byte (⟨l288⟩ : S106)).bind fun y478 => (sum_ y478 (fun y478 => (if (decide (x294 < 9)) = true then ((column_Reader_Check y478.2 true).bind fun y614 => (sum_ y614 (fun y614 => (column_Reader_Uint_j1 a1 x293 x294 y478 y614.f0)) (fun y614 => (some (.inr (.inr y614)))))) else (if (x294 == 9) = true then ((column_Reader_Check y478.2 (decide (y478.1 < 2))).bind fun y625 => (sum_ y625 (fun y625 => (column_Reader_Uint_j1 a1 x293 x294 y478 y625.f0)) (fun y625 => (some (.inr (.inr y625)))))) else ((column_Reader_Check y478.2 false).bind fun y635 => (sum_ y635 (fun y635 => (column_Reader_Uint_j1 a1 x293 x294 y478 y635.f0)) (fun y635 => (some (.inr (.inr y635))))))))) (fun y478 => (some (.inr (.inr y478)))))
noncomputable def column_Reader_Uint (a0 : S106) (a1 : Int) : Option ((Int × S106) ⊕ (S106)) :=
  (loop (fun s => column_Reader_Uint_l1 a1 s.1 s.2.1 s.2.2) (a0.f0, 0, 0)).bind fun t => some t
noncomputable def column_Reader_Int (a0 : S106) : Option ((Int × S106) ⊕ (S106)) :=
  (column_Reader_Uint a0 18446744073709551615).bind fun y107 => (sum_ y107 (fun y107 => (ltt (ishr .u64 y107.1 1) fun x118 => (ltt (IntKind.i64.wrap x118) fun x120 => (ltt (iand .u64 y107.1 1) fun x122 => (ltt (IntKind.i64.wrap x122) fun x124 => (ltt (ixor .i64 x120 (IntKind.i64.wrap (0 - x124))) fun x126 => (some (.inl (x126, y107.2))))))))) (fun y107 => (some (.inr y107))))
noncomputable def column_Reader_Text (a0 : S106) (a1 : Int) : Option (((List UInt8) × S106) ⊕ (S106)) :=
  ltt (IntKind.u64.wrap a1) fun x107 => ((column_Reader_Uint a0 x107).bind fun y109 => (sum_ y109 (fun y109 => (ltt (IntKind.u64.wrap (y109.2.f0.length : Int)) fun x120 => ((column_Reader_Check y109.2 (decide (y109.1 ≤ x120))).bind fun y122 => (sum_ y122 (fun y122 => ((cut_ y122.f0 0 y109.1).bind fun l133 => ((cut_ y122.f0 y109.1 (y122.f0.length : Int)).bind fun l141 => (some (.inl (bts l133, (⟨l141⟩ : S106))))))) (fun y122 => (some (.inr y122))))))) (fun y109 => (some (.inr y109)))))
end Go.Proofs.YteodeedejjcmgaaDoor.M
