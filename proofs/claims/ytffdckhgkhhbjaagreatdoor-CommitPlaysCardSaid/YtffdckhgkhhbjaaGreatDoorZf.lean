/- Texts of the claim, joined: what it uses of Dch, Mch, DlCommitPlays, MlCommitPlays, LCommitPlays, DlCommitMissing, DlCommitTwins, DlCommitFalls, Qa, Qb, Qc, Qd, Qe, Qf, Qg, Qh, Qi, Qj, Qk, Qm, Qn, Qo, Qp, Qq, Pa, Pc, Pd, Pf, Ph, Pi, Pj, Pl, Pm, Po, Rb, Rc, Rd, Re. -/
import Derived.Test.YtffdckhgkhhbjaaGreatDoorZe
import Derived.Test.YtffdckhgkhhbjaaGreatDoorCards
import Derived.Test.YtffdckhgkhhbjaaGreatDoorTie
import Derived.SevenTiedAt
import Derived.LaidMore
import Derived.OpenShut
import Derived.Stop.Joined
import Derived.ProofKit
import Derived.IntWalk
import Derived.Sort.Walk0
namespace Go.Proofs.YtffdckhgkhhbjaaGreatDoor.M
open Go Go.RowKit Go.Proofs.YtffdckhgkhhbjaaGreatDoor.E
set_option linter.unusedVariables false
noncomputable section
set_option linter.unusedSimpArgs false
def law18_fine_b1 (l1331 : (List S63)) : Option ((List S63)) :=
  some l1331
def law18_fine_x1_0 (l1611 : (List S63)) : Option ((List S63)) :=
  law18_fine_b1 l1611
def law18_fine_b2 (x1479 : Int) (l1707 : (List S63)) : Option (((List S63) × Int) ⊕ (((List S63)))) :=
  ltt (IntKind.i64.wrap (x1479 + 1)) fun x1711 => (some (.inl (l1707, x1711)))
def law18_fine_j2 (a0 : (List S63)) (l1475 : (List S63)) (x1479 : Int) (b1721 : Bool) : Option (((List S63) × Int) ⊕ (((List S63)))) :=
  if b1721 = true then ((at_ a0 x1479).bind fun x1723 => (chk (l1475.length + [x1723].length ≤ 140737488355328 / 88) (law18_fine_b2 x1479 (l1475 ++ [x1723])))) else (law18_fine_b2 x1479 l1475)
def law18_fine_j1 (a0 : (List S63)) (l1475 : (List S63)) (x1479 : Int) (b1619 : Bool) : Option (((List S63) × Int) ⊕ (((List S63)))) :=
  if b1619 = true then ((at_ a0 x1479).bind fun x1731 => (if (decide (x1731.f1 ≤ 1099511627776)) = true then (if (decide ((x1731.f2.f0.length : Int) ≤ 32)) = true then (law18_fine_j2 a0 l1475 x1479 (decide (x1731.f2.f2.f0 ≤ 1099511627776))) else (law18_fine_j2 a0 l1475 x1479 false)) else (law18_fine_j2 a0 l1475 x1479 false))) else (some (.inr (l1475)))
def law18_fine_l1 (a0 : (List S63)) (l1475 : (List S63)) (x1479 : Int) : Option (((List S63) × Int) ⊕ (((List S63)))) :=
  if (decide (x1479 < (a0.length : Int))) = true then (law18_fine_j1 a0 l1475 x1479 (decide (x1479 < 10))) else (law18_fine_j1 a0 l1475 x1479 false)
def law18_fine (a0 : (List S63)) : Option ((List S63)) :=
  (loop (fun s => law18_fine_l1 a0 s.1 s.2) ([], 0)).bind fun t => law18_fine_x1_0 t
def law18_has (a0 : Int) (a1 : (List Int)) (a2 : (List S63)) (a3 : S33) : Option (Bool) :=
  if (a0 == a3.f0) = true then (if ((bts a1) == a3.f1) = true then ((r17_Same a2 a3.f2).bind fun y106 => (some y106)) else (some false)) else (some false)
def law18_awake_j1 (o156 : (Option S66)) (b157 : Bool) : Option (Bool) :=
  if b157 = true then (some false) else ((commit_Recover o156).bind fun y161 => (if (y161.2.2.2.1 == 0) = true then (if (y161.1 == 2) = true then (if ((bts y161.2.1) == [98]) = true then (if ((y161.2.2.1.length : Int) == 2) = true then ((at_ y161.2.2.1 1).bind fun x177 => (some (x177.f2.f0 == [121]))) else (some false)) else (some false)) else (some false)) else (some false)))
def law18_awake : Option (Bool) :=
  (files_New 65536).bind fun y103 => ((commit_Put y103.1 1 [97] [(⟨true, 0, (⟨[120], (⟨0, 0⟩ : S56), (⟨0, 0, false, 0, 0⟩ : S59)⟩ : S61)⟩ : S63)]).bind fun y190 => (if (y190.1 != 0) = true then (law18_awake_j1 y190.2 true) else ((commit_Put y190.2 2 [98] [(⟨true, 0, (⟨[121], (⟨0, 0⟩ : S56), (⟨0, 0, false, 0, 0⟩ : S59)⟩ : S61)⟩ : S63)]).bind fun y212 => (law18_awake_j1 y212.2 (y212.1 != 0)))))
end
set_option maxRecDepth 100000
set_option maxHeartbeats 4000000
set_option linter.unusedSimpArgs false
theorem F_law18_fine {r : World} {L : List HP} {w : World} (a0 : (List S63)) (A0 : Option Addr) (n0 : Nat) (c0 : Nat) {y : ((List S63))} (G : law18_fine a0 = some y) (ha0 : RdL L k63 A0 n0 c0 a0) (X : SH r (L) w) :
  Ret Tryz.prog 10 #[.slice A0 n0 c0] w fun v w' => ∃ (B0 : Option Addr) (m0 : Nat) (d0 : Nat), v = .slice B0 m0 d0 ∧ SH r (own k63 63 B0 m0 d0 y :: L) w' := by
 refine enter Tryz.func10 rfl Tryz.ntmps10 [(0, .slice A0 n0 c0)] rfl (by simp) ?_
 intro U J Qf hQ hQn
 unfold law18_fine at G
 refine ws fun K100 hK100 => ?_
 refine x_m J rfl fun U J => ?_
 refine wn (hK100 _ _ ?_)
 refine ws fun K101 hK101 => ?_
 refine x_m J rfl fun U J => ?_
 refine wn (hK101 _ _ ?_)
 refine wp_seq_k fun K102 hK102 => ?_
 refine ws fun K103 hK103 => ?_
 refine x_m J rfl fun U J => ?_
 refine wn (hK103 _ _ ?_)
 refine wp_block_k fun Kx104 hKx104 => ?_
 have hb1 : ∀ (l105 : (List S63)), law18_fine_b1 l105 = some y → ∀ (A106 : Option Addr) (n107 : Nat) (c108 : Nat) (U : Act) (w : World), FR 49 [] U [(3, .slice A106 n107 c108)] → SH r (own k63 63 A106 n107 c108 l105 :: L) w → Kx104 U w := by
  intro l105 G A106 n107 c108 U w J X
  unfold law18_fine_b1 at G
  refine hKx104 _ _ ?_
  refine hK102 _ _ ?_
  refine ws fun K109 hK109 => ?_
  refine x_m J rfl fun U J => ?_
  refine x_m J rfl fun U J => ?_
  refine wn (hK109 _ _ ?_)
  refine wp_ret ?_
  cases G
  refine hQ _ _ ?_
  refine lv Tryz.results10 J rfl ?_
  exact ⟨A106, n107, c108, rfl, X⟩
 obtain ⟨t110, hl110, G⟩ := bnd G
 have hx110_0 : ∀ (l111 : (List S63)), (l111) = t110 → ∀ (A112 : Option Addr) (n113 : Nat) (c110 : Nat) (U : Act) (w : World), FR 49 [] U [(3, .slice A112 n113 c110)] → SH r (own k63 63 A112 n113 c110 l111 :: L) w → Kx104 U w := by
  intro l111 ht A112 n113 c110 U w J X
  subst ht
  replace G : law18_fine_x1_0 l111 = some y := G
  unfold law18_fine_x1_0 at G
  exact hb1 l111 G A112 n113 c110 U w (J.sub _ rfl) X
 replace X := SH.nil_own (d := k63) (e := 63) X
 refine wp_loop_fn hl110 (fun s U w => ∃ (A114 : Option Addr) (n115 : Nat) (c116 : Nat), FR 49 [] U [(0, .slice A0 n0 c0), (3, .slice A114 n115 c116), (4, .int .i64 s.2)] ∧ SH r (own k63 63 A114 n115 c116 s.1 :: L) w) ⟨none, 0, 0, J.sub _ rfl, X⟩ ?_
 intro N110 s110 o110 G N110_ T110_ U w hLab
 obtain ⟨l117, x118⟩ := s110
 replace G : law18_fine_l1 a0 l117 x118 = some o110 := G
 unfold law18_fine_l1 at G
 try dsimp only at hLab
 obtain ⟨A114, n115, c116, J, X⟩ := hLab
 refine wp_seq_k fun K119 hK119 => ?_
 refine wp_seq_k fun K120 hK120 => ?_
 have hj1 : ∀ (b121 : Bool), law18_fine_j1 a0 l117 x118 b121 = some o110 → ∀ (U : Act) (w : World), FR 49 [] U [(0, .slice A0 n0 c0), (3, .slice A114 n115 c116), (4, .int .i64 x118), (12, .bool b121)] → SH r (own k63 63 A114 n115 c116 l117 :: L) w → K120 U w := by
  intro b121 G U w J X
  unfold law18_fine_j1 at G
  refine hK120 _ _ ?_
  refine c_if J rfl (fun hb122 => ?_) fun hb122 => ?_
  ·replace G := ift hb122 G
   refine wp_skip ?_
   refine hK119 _ _ ?_
   refine wp_seq_k fun K123 hK123 => ?_
   refine wp_block_k fun Kx124 hKx124 => ?_
   have hb2 : ∀ (l125 : (List S63)), law18_fine_b2 x118 l125 = some o110 → ∀ (A126 : Option Addr) (n127 : Nat) (c128 : Nat) (U : Act) (w : World), FR 49 [] U [(0, .slice A0 n0 c0), (3, .slice A126 n127 c128), (4, .int .i64 x118)] → SH r (own k63 63 A126 n127 c128 l125 :: L) w → Kx124 U w := by
    intro l125 G A126 n127 c128 U w J X
    unfold law18_fine_b2 at G
    refine hKx124 _ _ ?_
    refine hK123 _ _ ?_
    refine wp_reg ?_
    refine x_m J rfl fun U J => ?_
    obtain ⟨x129, h130, G⟩ := ltt_ G
    refine x_v (v := .int .i64 x129) J (rv_i h130 (r_add rfl (J.ev rfl) (J.ev rfl))) rfl fun U J => ?_
    refine x_m J rfl fun U J => ?_
    refine wpList_nil ?_
    cases G
    exact ⟨_, N110_ _ rfl, A126, n127, c128, J.sub _ rfl, X⟩
   refine wp_seq_k fun K131 hK131 => ?_
   have hj2 : ∀ (b132 : Bool), law18_fine_j2 a0 l117 x118 b132 = some o110 → ∀ (U : Act) (w : World), FR 49 [] U [(0, .slice A0 n0 c0), (3, .slice A114 n115 c116), (4, .int .i64 x118), (40, .bool b132)] → SH r (own k63 63 A114 n115 c116 l117 :: L) w → K131 U w := by
    intro b132 G U w J X
    unfold law18_fine_j2 at G
    refine hK131 _ _ ?_
    refine c_if J rfl (fun hb133 => ?_) fun hb133 => ?_
    ·replace G := ift hb133 G
     refine wp_reg ?_
     refine x_m J rfl fun U J => ?_
     refine x_m J rfl fun U J => ?_
     refine x_m J rfl fun U J => ?_
     obtain ⟨x134, h135, G⟩ := bnd G
     refine x_ia' uu31 sz63 (X.rdl 1 ha0 rfl) h135 J (fun U J => ?_) rfl
     obtain ⟨cs, hV, hc136⟩ := el (X.rdl 1 ha0 rfl) h135
     obtain rfl := hV
     refine x_lda' (cs := [.bool x134.f0, .int .u64 x134.f1, str x134.f2.f0, .int .i64 x134.f2.f1.f0, .int .i64 x134.f2.f1.f1, .int .u64 x134.f2.f2.f0, .float .f64 x134.f2.f2.f1, .bool x134.f2.f2.f2, .float .f64 x134.f2.f2.f3, .float .f64 x134.f2.f2.f4]) uu63 sz63 (fun j u h => by rw [ea_add]; exact hc136 _ _ h) J (fun U J => ?_) rfl
     refine x_bsl' (d := k63) (e := 63) (ps := #[(0, .agg #[.bool x134.f0, .int .u64 x134.f1, str x134.f2.f0, .int .i64 x134.f2.f1.f0, .int .i64 x134.f2.f1.f1, .int .u64 x134.f2.f2.f0, .float .f64 x134.f2.f2.f1, .bool x134.f2.f2.f2, .float .f64 x134.f2.f2.f3, .float .f64 x134.f2.f2.f4])]) (cells := [.bool x134.f0, .int .u64 x134.f1, str x134.f2.f0, .int .i64 x134.f2.f1.f0, .int .i64 x134.f2.f1.f1, .int .u64 x134.f2.f2.f0, .float .f64 x134.f2.f2.f1, .bool x134.f2.f2.f2, .float .f64 x134.f2.f2.f3, .float .f64 x134.f2.f2.f4]) (xs := [x134]) (fun w => by kernel_rfl) rfl ⟨[.bool x134.f0, .int .u64 x134.f1, str x134.f2.f0, .int .i64 x134.f2.f1.f0, .int .i64 x134.f2.f1.f1, .int .u64 x134.f2.f2.f0, .float .f64 x134.f2.f2.f1, .bool x134.f2.f2.f2, .float .f64 x134.f2.f2.f3, .float .f64 x134.f2.f2.f4], _, rfl, rfl, rfl⟩ J X (fun g137 U w X J => ?_) rfl
     obtain ⟨h138, G⟩ := chk_some G
     have hr := X.rd 0 rfl
     refine x_app' 1 inf63 uu31 J X hr.1 hr.2.1 h138 rfl (fun A139 n140 c141 U w X J => ?_) rfl
     refine x_m J rfl fun U J => ?_
     refine wpList_nil ?_
     replace X := X.drop 1
     exact hb2 (l117 ++ [x134]) G A139 n140 c141 U w (J.sub _ rfl) X
    replace G := iff' hb133 G
    refine wp_skip ?_
    exact hb2 l117 G A114 n115 c116 U w (J.sub _ rfl) X
   refine wp_reg ?_
   refine x_m J rfl fun U J => ?_
   refine x_m J rfl fun U J => ?_
   obtain ⟨x142, h143, G⟩ := bnd G
   refine x_ia' uu31 sz63 (X.rdl 1 ha0 rfl) h143 J (fun U J => ?_) rfl
   refine x_fae (m := x118.toNat * 10) fa63_1 J (fun U J => ?_) rfl rfl rfl rfl rfl
   obtain ⟨cs, hV, hc144⟩ := el (X.rdl 1 ha0 rfl) h143
   obtain rfl := hV
   refine x_ld' uu30 (hc144 1 _ rfl) J (fun U J => ?_) rfl
   refine x_v J (r_leI rfl (J.ev rfl) (J.ev rfl)) rfl fun U J => ?_
   refine x_m J rfl fun U J => ?_
   refine bcase (b := decide (x142.f1 ≤ 1099511627776)) (fun hb145 => ?_) fun hb145 => ?_
   ·replace G := ift hb145 G
    refine x_on' hb145 J ?_ rfl
    refine x_m J rfl fun U J => ?_
    refine x_on' hb145 J ?_ rfl
    refine x_m J rfl fun U J => ?_
    refine x_on' hb145 J ?_ rfl
    refine x_ia' uu31 sz63 (X.rdl 1 ha0 rfl) h143 J (fun U J => ?_) rfl
    refine x_on' hb145 J ?_ rfl
    refine x_fae (m := x118.toNat * 10) fa63_2 J (fun U J => ?_) rfl rfl rfl rfl rfl
    refine x_on' hb145 J ?_ rfl
    refine x_fae (m := x118.toNat * 10 + 2) fa61_0 J (fun U J => ?_) rfl rfl rfl rfl rfl
    refine x_on' hb145 J ?_ rfl
    obtain ⟨cs, hV, hc146⟩ := el (X.rdl 1 ha0 rfl) h143
    obtain rfl := hV
    refine x_ld' uu9 (hc146 2 _ rfl) J (fun U J => ?_) rfl
    refine x_on' hb145 J ?_ rfl
    refine x_v J (r_lenS uu9 rfl (J.ev rfl)) rfl fun U J => ?_
    refine x_on' hb145 J ?_ rfl
    refine x_v J (r_leI rfl (J.ev rfl) (J.ev rfl)) rfl fun U J => ?_
    refine x_pickt' hb145 J (fun U J => ?_) rfl
    refine x_m J rfl fun U J => ?_
    refine bcase (b := decide ((x142.f2.f0.length : Int) ≤ 32)) (fun hb147 => ?_) fun hb147 => ?_
    ·replace G := ift hb147 G
     refine x_on' hb147 J ?_ rfl
     refine x_m J rfl fun U J => ?_
     refine x_on' hb147 J ?_ rfl
     refine x_m J rfl fun U J => ?_
     refine x_on' hb147 J ?_ rfl
     refine x_ia' uu31 sz63 (X.rdl 1 ha0 rfl) h143 J (fun U J => ?_) rfl
     refine x_on' hb147 J ?_ rfl
     refine x_fae (m := x118.toNat * 10) fa63_2 J (fun U J => ?_) rfl rfl rfl rfl rfl
     refine x_on' hb147 J ?_ rfl
     refine x_fae (m := x118.toNat * 10 + 2) fa61_2 J (fun U J => ?_) rfl rfl rfl rfl rfl
     refine x_on' hb147 J ?_ rfl
     refine x_fae (m := x118.toNat * 10 + 5) fa59_0 J (fun U J => ?_) rfl rfl rfl rfl rfl
     refine x_on' hb147 J ?_ rfl
     obtain ⟨cs, hV, hc148⟩ := el (X.rdl 1 ha0 rfl) h143
     obtain rfl := hV
     refine x_ld' uu30 (hc148 5 _ rfl) J (fun U J => ?_) rfl
     refine x_on' hb147 J ?_ rfl
     refine x_v J (r_leI rfl (J.ev rfl) (J.ev rfl)) rfl fun U J => ?_
     refine x_pickt' hb147 J (fun U J => ?_) rfl
     refine wpList_nil ?_
     exact hj2 (decide (x142.f2.f2.f0 ≤ 1099511627776)) G U w (J.sub _ rfl) X
    replace G := iff' hb147 G
    refine xO 8 hb147 J rfl fun U J => ?_
    refine x_pickf' hb147 J (fun U J => ?_) rfl
    refine wpList_nil ?_
    exact hj2 false G U w (J.sub _ rfl) X
   replace G := iff' hb145 G
   refine xO 8 hb145 J rfl fun U J => ?_
   refine x_pickf' hb145 J (fun U J => ?_) rfl
   refine x_m J rfl fun U J => ?_
   refine xO 8 rfl J rfl fun U J => ?_
   refine x_pickf' rfl J (fun U J => ?_) rfl
   refine wpList_nil ?_
   exact hj2 false G U w (J.sub _ rfl) X
  replace G := iff' hb122 G
  refine wp_exit ?_
  cases G
  exact hx110_0 l117 (T110_ _ rfl) A114 n115 c116 U w (J.sub _ rfl) X
 refine wp_reg ?_
 refine x_m J rfl fun U J => ?_
 refine x_m J rfl fun U J => ?_
 refine x_len' uu31 (X.rdl 1 ha0 rfl).2.1 J (fun U J => ?_) rfl
 refine x_v J (r_ltI rfl (J.ev rfl) (J.ev rfl)) rfl fun U J => ?_
 refine x_m J rfl fun U J => ?_
 refine bcase (b := decide (x118 < (a0.length : Int))) (fun hb149 => ?_) fun hb149 => ?_
 ·replace G := ift hb149 G
  refine x_on' hb149 J ?_ rfl
  refine x_m J rfl fun U J => ?_
  refine x_on' hb149 J ?_ rfl
  refine x_v J (r_ltI rfl (J.ev rfl) (J.ev rfl)) rfl fun U J => ?_
  refine x_pickt' hb149 J (fun U J => ?_) rfl
  refine wpList_nil ?_
  exact hj1 (decide (x118 < 10)) G U w (J.sub _ rfl) X
 replace G := iff' hb149 G
 refine xO 2 hb149 J rfl fun U J => ?_
 refine x_pickf' hb149 J (fun U J => ?_) rfl
 refine wpList_nil ?_
 exact hj1 false G U w (J.sub _ rfl) X
theorem F_law18_has {r : World} {L : List HP} {w : World} (a0 : Int) (a1 : (List Int)) (a2 : (List S63)) (a3 : S33) (A1 : Option Addr) (n1 : Nat) (c1 : Nat) (A2 : Option Addr) (n2 : Nat) (c2 : Nat) (A3_2 : Option Addr) (n3_2 : Nat) (c3_2 : Nat) {y : (Bool)} (G : law18_has a0 a1 a2 a3 = some y) (ha1 : RdL L (kI .u8) A1 n1 c1 a1) (ha2 : RdL L k63 A2 n2 c2 a2) (h3_2 : RdL L k63 A3_2 n3_2 c3_2 a3.f2) (X : SH r (L) w) :
  Ret Tryz.prog 13 #[.int .u64 a0, .slice A1 n1 c1, .slice A2 n2 c2, .agg #[.int .u64 a3.f0, str a3.f1, .slice A3_2 n3_2 c3_2]] w fun v w' => v = .bool y ∧ SH r (L) w' := by
 refine enter Tryz.func13 rfl Tryz.ntmps13 [(0, .int .u64 a0), (1, .slice A1 n1 c1), (2, .slice A2 n2 c2), (3, .agg #[.int .u64 a3.f0, str a3.f1, .slice A3_2 n3_2 c3_2])] rfl (by simp) ?_
 intro U J Qf hQ hQn
 unfold law18_has at G
 refine ws fun K100 hK100 => ?_
 refine x_box' J X (fun g101 U w X J => ?_) rfl
 refine x_m J rfl fun U J => ?_
 refine wn (hK100 _ _ ?_)
 refine ws fun K102 hK102 => ?_
 refine x_m J rfl fun U J => ?_
 refine x_fab' fa33_0 J (fun U J => ?_) rfl
 refine x_ld' uu30 (X.cell 0 rfl 0 _ rfl) J (fun U J => ?_) rfl
 refine x_v J (r_eqI rfl (J.ev rfl) (J.ev rfl)) rfl fun U J => ?_
 refine x_m J rfl fun U J => ?_
 refine bcase (b := a0 == a3.f0) (fun hb103 => ?_) fun hb103 => ?_
 ·replace G := ift hb103 G
  refine x_on' hb103 J ?_ rfl
  refine x_m J rfl fun U J => ?_
  refine x_on' hb103 J ?_ rfl
  refine x_b2s' uu29 uu5 uu9 (X.rdl 1 ha1 rfl) J (fun U J => ?_) rfl
  refine x_on' hb103 J ?_ rfl
  refine x_fab' fa33_1 J (fun U J => ?_) rfl
  refine x_on' hb103 J ?_ rfl
  refine x_ld' uu9 (X.cell 0 rfl 1 _ rfl) J (fun U J => ?_) rfl
  refine x_on' hb103 J ?_ rfl
  refine x_v J (r_eqS rfl (J.ev rfl) (J.ev rfl)) rfl fun U J => ?_
  refine x_pickt' hb103 J (fun U J => ?_) rfl
  refine x_m J rfl fun U J => ?_
  refine bcase (b := (bts a1) == a3.f1) (fun hb104 => ?_) fun hb104 => ?_
  ·replace G := ift hb104 G
   refine x_on' hb104 J ?_ rfl
   refine x_m J rfl fun U J => ?_
   refine x_on' hb104 J ?_ rfl
   refine x_fab' fa33_2 J (fun U J => ?_) rfl
   refine x_on' hb104 J ?_ rfl
   refine x_ld' uu31 (X.cell 0 rfl 2 _ rfl) J (fun U J => ?_) rfl
   refine x_on' hb104 J ?_ rfl
   obtain ⟨y105, h106, G⟩ := bnd G
   refine x_call' en31 J (F_r17_Same (L := blk g101 33 [.int .u64 a3.f0, str a3.f1, .slice A3_2 n3_2 c3_2] :: L) a2 a3.f2 A2 n2 c2 A3_2 n3_2 c3_2 h106 (RdL.sfx 1 rfl ha2) (RdL.sfx 1 rfl h3_2) X) (fun v U w hR J => ?_) rfl
   obtain ⟨rfl, X⟩ := hR
   refine x_pickt' hb104 J (fun U J => ?_) rfl
   refine x_m J rfl fun U J => ?_
   refine wn (hK102 _ _ ?_)
   refine wp_ret ?_
   replace X := X.drop 0
   cases G
   refine hQ _ _ ?_
   refine lv Tryz.results13 J rfl ?_
   exact ⟨rfl, X⟩
  replace G := iff' hb104 G
  refine xO 4 hb104 J rfl fun U J => ?_
  refine x_pickf' hb104 J (fun U J => ?_) rfl
  refine x_m J rfl fun U J => ?_
  refine wn (hK102 _ _ ?_)
  refine wp_ret ?_
  replace X := X.drop 0
  cases G
  refine hQ _ _ ?_
  refine lv Tryz.results13 J rfl ?_
  exact ⟨rfl, X⟩
 replace G := iff' hb103 G
 refine xO 5 hb103 J rfl fun U J => ?_
 refine x_pickf' hb103 J (fun U J => ?_) rfl
 refine x_m J rfl fun U J => ?_
 refine xO 4 rfl J rfl fun U J => ?_
 refine x_pickf' rfl J (fun U J => ?_) rfl
 refine x_m J rfl fun U J => ?_
 refine wn (hK102 _ _ ?_)
 refine wp_ret ?_
 replace X := X.drop 0
 cases G
 refine hQ _ _ ?_
 refine lv Tryz.results13 J rfl ?_
 exact ⟨rfl, X⟩
theorem F_law18_awake {r : World} {L : List HP} {w : World} {Z : Nat → Prop} {wz : World} {y : (Bool)} (G : law18_awake = some y) (hG0 : Imm Z wz (kI .u32) (some ⟨0, 0, none⟩) 16 16 gl_page_table) (hG1 : Gc Z wz 1 isI64) (hG2 : Gc Z wz 2 isEr) (hG3 : Gc Z wz 3 isEr) (X : SH r (zone Z wz :: L) w) :
  Ret Tryz.prog 7 #[] w fun v w' => ∃ (Z' : Nat → Prop) (wz' : World), v = .bool y ∧ Sub Z wz Z' wz' ∧ SH r (zone Z' wz' :: L) w' := by
 refine enter Tryz.func7 rfl Tryz.ntmps7 [] rfl (by simp) ?_
 intro U J Qf hQ hQn
 unfold law18_awake at G
 refine ws fun K100 hK100 => ?_
 refine x_m J rfl fun U J => ?_
 refine wn (hK100 _ _ ?_)
 refine ws fun K101 hK101 => ?_
 obtain ⟨y102, h103, G⟩ := bnd G
 refine x_call' en8 J (F_files_New (L := zone Z wz :: L) 65536 h103 X) (fun v U w hR J => ?_) rfl
 obtain ⟨p104, rfl, X⟩ := hR
 refine x_m J rfl fun U J => ?_
 refine x_v J (r_extract rfl (J.ev rfl) rfl) rfl fun U J => ?_
 refine x_v J (r_extract rfl (J.ev rfl) rfl) rfl fun U J => ?_
 refine x_m J rfl fun U J => ?_
 refine x_m J rfl fun U J => ?_
 refine wn (hK101 _ _ ?_)
 refine ws fun K105 hK105 => ?_
 refine x_v (v := .agg #[str [120], .int .i64 0, .int .i64 0, .int .u64 0, .float .f64 0, .bool false, .float .f64 0, .float .f64 0]) J (r_build (ps := #[(0, str [120])]) rfl (mapev2 J rfl) (fun w => by kernel_rfl)) rfl fun U J => ?_
 refine x_v (v := .agg #[.bool true, .int .u64 0, str [120], .int .i64 0, .int .i64 0, .int .u64 0, .float .f64 0, .bool false, .float .f64 0, .float .f64 0]) J (r_build (ps := #[(0, .bool true), (2, .agg #[str [120], .int .i64 0, .int .i64 0, .int .u64 0, .float .f64 0, .bool false, .float .f64 0, .float .f64 0])]) rfl (mapev2 J rfl) (fun w => by kernel_rfl)) rfl fun U J => ?_
 refine x_bsl' (d := k63) (e := 63) (ps := #[(0, .agg #[.bool true, .int .u64 0, str [120], .int .i64 0, .int .i64 0, .int .u64 0, .float .f64 0, .bool false, .float .f64 0, .float .f64 0])]) (cells := [.bool true, .int .u64 0, str [120], .int .i64 0, .int .i64 0, .int .u64 0, .float .f64 0, .bool false, .float .f64 0, .float .f64 0]) (xs := [(⟨true, 0, (⟨[120], (⟨0, 0⟩ : S56), (⟨0, 0, false, 0, 0⟩ : S59)⟩ : S61)⟩ : S63)]) (fun w => by kernel_rfl) rfl ⟨[.bool true, .int .u64 0, str [120], .int .i64 0, .int .i64 0, .int .u64 0, .float .f64 0, .bool false, .float .f64 0, .float .f64 0], _, rfl, rfl, rfl⟩ J X (fun g106 U w X J => ?_) rfl
 refine x_m J rfl fun U J => ?_
 refine wn (hK105 _ _ ?_)
 refine ws fun K107 hK107 => ?_
 refine x_v (v := .agg #[str [121], .int .i64 0, .int .i64 0, .int .u64 0, .float .f64 0, .bool false, .float .f64 0, .float .f64 0]) J (r_build (ps := #[(0, str [121])]) rfl (mapev2 J rfl) (fun w => by kernel_rfl)) rfl fun U J => ?_
 refine x_v (v := .agg #[.bool true, .int .u64 0, str [121], .int .i64 0, .int .i64 0, .int .u64 0, .float .f64 0, .bool false, .float .f64 0, .float .f64 0]) J (r_build (ps := #[(0, .bool true), (2, .agg #[str [121], .int .i64 0, .int .i64 0, .int .u64 0, .float .f64 0, .bool false, .float .f64 0, .float .f64 0])]) rfl (mapev2 J rfl) (fun w => by kernel_rfl)) rfl fun U J => ?_
 refine x_bsl' (d := k63) (e := 63) (ps := #[(0, .agg #[.bool true, .int .u64 0, str [121], .int .i64 0, .int .i64 0, .int .u64 0, .float .f64 0, .bool false, .float .f64 0, .float .f64 0])]) (cells := [.bool true, .int .u64 0, str [121], .int .i64 0, .int .i64 0, .int .u64 0, .float .f64 0, .bool false, .float .f64 0, .float .f64 0]) (xs := [(⟨true, 0, (⟨[121], (⟨0, 0⟩ : S56), (⟨0, 0, false, 0, 0⟩ : S59)⟩ : S61)⟩ : S63)]) (fun w => by kernel_rfl) rfl ⟨[.bool true, .int .u64 0, str [121], .int .i64 0, .int .i64 0, .int .u64 0, .float .f64 0, .bool false, .float .f64 0, .float .f64 0], _, rfl, rfl, rfl⟩ J X (fun g108 U w X J => ?_) rfl
 refine x_m J rfl fun U J => ?_
 refine wn (hK107 _ _ ?_)
 refine wp_seq_k fun K109 hK109 => ?_
 refine wp_seq_k fun K110 hK110 => ?_
 have hj1 : ∀ (o111 : (Option S66)) (b112 : Bool), law18_awake_j1 o111 b112 = some y → ∀ (Z113 : Nat → Prop) (wz114 : World) (h115 : Sub Z wz Z113 wz114) (U : Act) (w : World), FR 64 [] U [(1, .pointer p104), (32, .bool b112)] → SH r (optP (obj66) p104 o111 :: zone Z113 wz114 :: L) w → K110 U w := by
  intro o111 b112 G Z113 wz114 h115 U w J X
  unfold law18_awake_j1 at G
  refine hK110 _ _ ?_
  refine c_if J rfl (fun hb116 => ?_) fun hb116 => ?_
  ·replace G := ift hb116 G
   refine ws fun K117 hK117 => ?_
   refine x_m J rfl fun U J => ?_
   refine wn (hK117 _ _ ?_)
   refine wp_ret ?_
   replace X := X.drop 0
   cases G
   refine hQ _ _ ?_
   refine lv Tryz.results7 J rfl ?_
   exact ⟨Z113, wz114, rfl, h115, X⟩
  replace G := iff' hb116 G
  refine wp_skip ?_
  refine hK109 _ _ ?_
  refine ws fun K118 hK118 => ?_
  refine x_m J rfl fun U J => ?_
  replace X := X.pk 1 |>.pk 1
  obtain ⟨y119, h120, G⟩ := bnd G
  refine x_call' en12 J (F_commit_Recover (L := L) o111 p104 h120 (Imm.sub hG0 h115) (Gc.sub hG1 h115) (Gc.sub hG2 h115) (Gc.sub hG3 h115) X) (fun v U w hR J => ?_) rfl
  obtain ⟨Z121, wz122, B123, m124, d125, B126, m127, d128, rfl, h129, X⟩ := hR
  refine x_m J rfl fun U J => ?_
  refine x_v J (r_extract rfl (J.ev rfl) rfl) rfl fun U J => ?_
  refine x_v J (r_extract rfl (J.ev rfl) rfl) rfl fun U J => ?_
  refine x_v J (r_extract rfl (J.ev rfl) rfl) rfl fun U J => ?_
  refine x_v J (r_extract rfl (J.ev rfl) rfl) rfl fun U J => ?_
  refine x_m J rfl fun U J => ?_
  refine x_m J rfl fun U J => ?_
  refine x_m J rfl fun U J => ?_
  refine x_m J rfl fun U J => ?_
  refine wn (hK118 _ _ ?_)
  refine ws fun K130 hK130 => ?_
  refine x_m J rfl fun U J => ?_
  refine x_v J (r_eqI rfl (J.ev rfl) (J.ev rfl)) rfl fun U J => ?_
  refine x_m J rfl fun U J => ?_
  refine bcase (b := y119.2.2.2.1 == 0) (fun hb131 => ?_) fun hb131 => ?_
  ·replace G := ift hb131 G
   refine x_on' hb131 J ?_ rfl
   refine x_m J rfl fun U J => ?_
   refine x_on' hb131 J ?_ rfl
   refine x_v J (r_eqI rfl (J.ev rfl) (J.ev rfl)) rfl fun U J => ?_
   refine x_pickt' hb131 J (fun U J => ?_) rfl
   refine x_m J rfl fun U J => ?_
   refine bcase (b := y119.1 == 2) (fun hb132 => ?_) fun hb132 => ?_
   ·replace G := ift hb132 G
    refine x_on' hb132 J ?_ rfl
    refine x_m J rfl fun U J => ?_
    refine x_on' hb132 J ?_ rfl
    refine x_b2s' uu29 uu5 uu9 (X.rd 0 rfl) J (fun U J => ?_) rfl
    refine x_on' hb132 J ?_ rfl
    refine x_v J (r_eqS rfl (J.ev rfl) (J.ev rfl)) rfl fun U J => ?_
    refine x_pickt' hb132 J (fun U J => ?_) rfl
    refine x_m J rfl fun U J => ?_
    refine bcase (b := (bts y119.2.1) == [98]) (fun hb133 => ?_) fun hb133 => ?_
    ·replace G := ift hb133 G
     refine x_on' hb133 J ?_ rfl
     refine x_m J rfl fun U J => ?_
     refine x_on' hb133 J ?_ rfl
     refine x_len' uu31 (X.rd 1 rfl).2.1 J (fun U J => ?_) rfl
     refine x_on' hb133 J ?_ rfl
     refine x_v J (r_eqI rfl (J.ev rfl) (J.ev rfl)) rfl fun U J => ?_
     refine x_pickt' hb133 J (fun U J => ?_) rfl
     refine x_m J rfl fun U J => ?_
     refine bcase (b := (y119.2.2.1.length : Int) == 2) (fun hb134 => ?_) fun hb134 => ?_
     ·replace G := ift hb134 G
      refine x_on' hb134 J ?_ rfl
      refine x_m J rfl fun U J => ?_
      refine x_on' hb134 J ?_ rfl
      obtain ⟨x135, h136, G⟩ := bnd G
      refine x_ia' uu31 sz63 (X.rd 1 rfl) h136 J (fun U J => ?_) rfl
      refine x_on' hb134 J ?_ rfl
      refine x_fae (m := (1 : Int).toNat * 10) fa63_2 J (fun U J => ?_) rfl rfl rfl rfl rfl
      refine x_on' hb134 J ?_ rfl
      refine x_fae (m := (1 : Int).toNat * 10 + 2) fa61_0 J (fun U J => ?_) rfl rfl rfl rfl rfl
      refine x_on' hb134 J ?_ rfl
      obtain ⟨cs, hV, hc137⟩ := el (X.rd 1 rfl) h136
      obtain rfl := hV
      refine x_ld' uu9 (hc137 2 _ rfl) J (fun U J => ?_) rfl
      refine x_on' hb134 J ?_ rfl
      refine x_v J (r_eqS rfl (J.ev rfl) (J.ev rfl)) rfl fun U J => ?_
      refine x_pickt' hb134 J (fun U J => ?_) rfl
      refine x_m J rfl fun U J => ?_
      refine wn (hK130 _ _ ?_)
      refine wp_ret ?_
      replace X := X.drop 0 |>.drop 0 |>.drop 0
      cases G
      refine hQ _ _ ?_
      refine lv Tryz.results7 J rfl ?_
      exact ⟨Z121, wz122, rfl, (Sub.trans h115 h129), X⟩
     replace G := iff' hb134 G
     refine xO 6 hb134 J rfl fun U J => ?_
     refine x_pickf' hb134 J (fun U J => ?_) rfl
     refine x_m J rfl fun U J => ?_
     refine wn (hK130 _ _ ?_)
     refine wp_ret ?_
     replace X := X.drop 0 |>.drop 0 |>.drop 0
     cases G
     refine hQ _ _ ?_
     refine lv Tryz.results7 J rfl ?_
     exact ⟨Z121, wz122, rfl, (Sub.trans h115 h129), X⟩
    replace G := iff' hb133 G
    refine xO 3 hb133 J rfl fun U J => ?_
    refine x_pickf' hb133 J (fun U J => ?_) rfl
    refine x_m J rfl fun U J => ?_
    refine xO 6 rfl J rfl fun U J => ?_
    refine x_pickf' rfl J (fun U J => ?_) rfl
    refine x_m J rfl fun U J => ?_
    refine wn (hK130 _ _ ?_)
    refine wp_ret ?_
    replace X := X.drop 0 |>.drop 0 |>.drop 0
    cases G
    refine hQ _ _ ?_
    refine lv Tryz.results7 J rfl ?_
    exact ⟨Z121, wz122, rfl, (Sub.trans h115 h129), X⟩
   replace G := iff' hb132 G
   refine xO 3 hb132 J rfl fun U J => ?_
   refine x_pickf' hb132 J (fun U J => ?_) rfl
   refine x_m J rfl fun U J => ?_
   refine xO 3 rfl J rfl fun U J => ?_
   refine x_pickf' rfl J (fun U J => ?_) rfl
   refine x_m J rfl fun U J => ?_
   refine xO 6 rfl J rfl fun U J => ?_
   refine x_pickf' rfl J (fun U J => ?_) rfl
   refine x_m J rfl fun U J => ?_
   refine wn (hK130 _ _ ?_)
   refine wp_ret ?_
   replace X := X.drop 0 |>.drop 0 |>.drop 0
   cases G
   refine hQ _ _ ?_
   refine lv Tryz.results7 J rfl ?_
   exact ⟨Z121, wz122, rfl, (Sub.trans h115 h129), X⟩
  replace G := iff' hb131 G
  refine xO 2 hb131 J rfl fun U J => ?_
  refine x_pickf' hb131 J (fun U J => ?_) rfl
  refine x_m J rfl fun U J => ?_
  refine xO 3 rfl J rfl fun U J => ?_
  refine x_pickf' rfl J (fun U J => ?_) rfl
  refine x_m J rfl fun U J => ?_
  refine xO 3 rfl J rfl fun U J => ?_
  refine x_pickf' rfl J (fun U J => ?_) rfl
  refine x_m J rfl fun U J => ?_
  refine xO 6 rfl J rfl fun U J => ?_
  refine x_pickf' rfl J (fun U J => ?_) rfl
  refine x_m J rfl fun U J => ?_
  refine wn (hK130 _ _ ?_)
  refine wp_ret ?_
  replace X := X.drop 0 |>.drop 0 |>.drop 0
  cases G
  refine hQ _ _ ?_
  refine lv Tryz.results7 J rfl ?_
  exact ⟨Z121, wz122, rfl, (Sub.trans h115 h129), X⟩
 refine wp_reg ?_
 refine x_m J rfl fun U J => ?_
 refine x_bsl' (d := (kI .u8)) (e := 5) (ps := #[(0, .int .u8 97)]) (cells := [.int .u8 97]) (xs := [97]) (fun w => by kernel_rfl) rfl ⟨[.int .u8 97], _, rfl, rfl, rfl⟩ J X (fun g138 U w X J => ?_) rfl
 replace X := own_ownm (by decide) X
 refine x_cvM' 0 uu29 uu5 J X rfl (fun  U w X J => ?_) rfl
 refine x_m J rfl fun U J => ?_
 replace X := X.pk 4 |>.pk 1
 obtain ⟨Z139, wz140, X, h141, sb184⟩ := SH.freezem (m := 1) (c := 1) (A := (some ⟨g138, 0, none⟩)) X
 replace X := X.pk 0 |>.pk 2
 obtain ⟨Z142, wz143, X, h144, sb188⟩ := SH.freeze (n := 1) (c := 1) (A := (some ⟨g106, 0, none⟩)) X
 have h145 := Imm.sub h141 sb188
 replace X := X.pk 2
 obtain ⟨y146, h147, G⟩ := bnd G
 refine x_call' en11 J (F_commit_Put (L := own k63 63 (some ⟨g108, 0, none⟩) 1 1 [(⟨true, 0, (⟨[121], (⟨0, 0⟩ : S56), (⟨0, 0, false, 0, 0⟩ : S59)⟩ : S61)⟩ : S63)] :: L) y102.1 1 [97] [(⟨true, 0, (⟨[120], (⟨0, 0⟩ : S56), (⟨0, 0, false, 0, 0⟩ : S59)⟩ : S61)⟩ : S63)] p104 (some ⟨g138, 0, none⟩) 1 1 (some ⟨g106, 0, none⟩) 1 1 h147 h145 h144 (Imm.sub hG0 (Sub.trans sb184 sb188)) (Gc.sub hG1 (Sub.trans sb184 sb188)) (Gc.sub hG2 (Sub.trans sb184 sb188)) (Gc.sub hG3 (Sub.trans sb184 sb188)) X) (fun v U w hR J => ?_) rfl
 obtain ⟨Z148, wz149, rfl, h150, X⟩ := hR
 have h151 := Imm.sub h144 h150
 have h152 := Imm.sub h145 h150
 refine x_v J (r_neI rfl (J.ev rfl) (J.ev rfl)) rfl fun U J => ?_
 refine x_m J rfl fun U J => ?_
 refine bcase (b := y146.1 != 0) (fun hb153 => ?_) fun hb153 => ?_
 ·replace G := ift hb153 G
  refine xO 6 hb153 J rfl fun U J => ?_
  refine x_pickt' hb153 J (fun U J => ?_) rfl
  refine wpList_nil ?_
  replace X := X.drop 2
  exact hj1 y146.2 true G Z148 wz149 (Sub.trans (Sub.trans sb184 sb188) h150) U w (J.sub _ rfl) X
 replace G := iff' hb153 G
 refine x_on' hb153 J ?_ rfl
 refine x_m J rfl fun U J => ?_
 refine x_on' hb153 J ?_ rfl
 refine x_bsl' (d := (kI .u8)) (e := 5) (ps := #[(0, .int .u8 98)]) (cells := [.int .u8 98]) (xs := [98]) (fun w => by kernel_rfl) rfl ⟨[.int .u8 98], _, rfl, rfl, rfl⟩ J X (fun g154 U w X J => ?_) rfl
 refine x_on' hb153 J ?_ rfl
 replace X := own_ownm (by decide) X
 refine x_cvM' 0 uu29 uu5 J X rfl (fun  U w X J => ?_) rfl
 refine x_on' hb153 J ?_ rfl
 refine x_m J rfl fun U J => ?_
 refine x_on' hb153 J ?_ rfl
 replace X := X.pk 2 |>.pk 1
 obtain ⟨Z155, wz156, X, h157, sb202⟩ := SH.freezem (m := 1) (c := 1) (A := (some ⟨g154, 0, none⟩)) X
 have h158 := Imm.sub h151 sb202
 have h159 := Imm.sub h152 sb202
 replace X := X.pk 0 |>.pk 2
 obtain ⟨Z160, wz161, X, h162, sb208⟩ := SH.freeze (n := 1) (c := 1) (A := (some ⟨g108, 0, none⟩)) X
 have h163 := Imm.sub h158 sb208
 have h164 := Imm.sub h159 sb208
 have h165 := Imm.sub h157 sb208
 replace X := X.pk 1
 obtain ⟨y166, h167, G⟩ := bnd G
 refine x_call' en11 J (F_commit_Put (L := L) y146.2 2 [98] [(⟨true, 0, (⟨[121], (⟨0, 0⟩ : S56), (⟨0, 0, false, 0, 0⟩ : S59)⟩ : S61)⟩ : S63)] p104 (some ⟨g154, 0, none⟩) 1 1 (some ⟨g108, 0, none⟩) 1 1 h167 h165 h162 (Imm.sub hG0 (Sub.trans (Sub.trans (Sub.trans (Sub.trans sb184 sb188) h150) sb202) sb208)) (Gc.sub hG1 (Sub.trans (Sub.trans (Sub.trans (Sub.trans sb184 sb188) h150) sb202) sb208)) (Gc.sub hG2 (Sub.trans (Sub.trans (Sub.trans (Sub.trans sb184 sb188) h150) sb202) sb208)) (Gc.sub hG3 (Sub.trans (Sub.trans (Sub.trans (Sub.trans sb184 sb188) h150) sb202) sb208)) X) (fun v U w hR J => ?_) rfl
 obtain ⟨Z168, wz169, rfl, h170, X⟩ := hR
 have h171 := Imm.sub h163 h170
 have h172 := Imm.sub h162 h170
 have h173 := Imm.sub h164 h170
 have h174 := Imm.sub h165 h170
 refine x_on' hb153 J ?_ rfl
 refine x_v J (r_neI rfl (J.ev rfl) (J.ev rfl)) rfl fun U J => ?_
 refine x_pickf' hb153 J (fun U J => ?_) rfl
 refine wpList_nil ?_
 exact hj1 y166.2 (y166.1 != 0) G Z168 wz169 (Sub.trans (Sub.trans (Sub.trans (Sub.trans (Sub.trans sb184 sb188) h150) sb202) sb208) h170) U w (J.sub _ rfl) X
noncomputable section
set_option linter.unusedSimpArgs false
def law18_CommitPlays_b1 : Option (Bool) :=
  some true
def law18_CommitPlays_x1_0 : Option (Bool) :=
  law18_CommitPlays_b1
def law18_CommitPlays_j3 (x6168 : Int) (x7182 : Int) (s7183 : (List UInt8)) (l7184 : (List S63)) (y7189 : (Int × (List Int) × (List S63) × Int × (Option S66))) (b7220 : Bool) : Option (((Option S66) × Int × (List UInt8) × (List S63) × Int) ⊕ ((Unit) ⊕ (Bool))) :=
  if b7220 = true then (some (.inr (.inr false))) else (ltt (IntKind.i64.wrap (x6168 + 1)) fun x7223 => (some (.inl (y7189.2.2.2.2, x7182, s7183, l7184, x7223))))
def law18_CommitPlays_j2 (x6168 : Int) (x7182 : Int) (s7183 : (List UInt8)) (l7184 : (List S63)) (y7189 : (Int × (List Int) × (List S63) × Int × (Option S66))) (x7209 : Int) : Option (((Option S66) × Int × (List UInt8) × (List S63) × Int) ⊕ ((Unit) ⊕ (Bool))) :=
  if (y7189.2.2.2.1 != 0) = true then (law18_CommitPlays_j3 x6168 x7182 s7183 l7184 y7189 true) else ((law18_has y7189.1 y7189.2.1 y7189.2.2.1 (⟨x7182, s7183, l7184⟩ : S33)).bind fun y7226 => (if (!y7226) = true then (law18_CommitPlays_j3 x6168 x7182 s7183 l7184 y7189 true) else ((files_Store_List y7189.2.2.2.2).bind fun y7229 => (law18_CommitPlays_j3 x6168 x7182 s7183 l7184 y7189 ((y7229.length : Int) != x7209)))))
def law18_CommitPlays_b2 (x6168 : Int) (o7181 : (Option S66)) (x7182 : Int) (s7183 : (List UInt8)) (l7184 : (List S63)) : Option (((Option S66) × Int × (List UInt8) × (List S63) × Int) ⊕ ((Unit) ⊕ (Bool))) :=
  (commit_Recover o7181).bind fun y7189 => (if (decide (0 < x7182)) = true then (ltt (IntKind.i64.wrap x7182) fun x7236 => (ltt (IntKind.i64.wrap (3 + x7236)) fun x7238 => (law18_CommitPlays_j2 x6168 x7182 s7183 l7184 y7189 x7238))) else (law18_CommitPlays_j2 x6168 x7182 s7183 l7184 y7189 1))
def law18_CommitPlays_b3 (x6168 : Int) (y7288 : (Int × (Option S66))) (x7325 : Int) (s7326 : (List UInt8)) (l7327 : (List S63)) : Option (((Option S66) × Int × (List UInt8) × (List S63) × Int) ⊕ ((Unit) ⊕ (Bool))) :=
  law18_CommitPlays_b2 x6168 y7288.2 x7325 s7326 l7327
def law18_CommitPlays_j4 (x6162 : Int) (s6163 : (List UInt8)) (l6164 : (List S63)) (x6168 : Int) (x6782 : S36) (y6803 : ((List S63))) (x7277 : Int) (y7288 : (Int × (Option S66))) (b7333 : Bool) : Option (((Option S66) × Int × (List UInt8) × (List S63) × Int) ⊕ ((Unit) ⊕ (Bool))) :=
  if b7333 = true then (if (y7288.1 != 1) = true then (some (.inr (.inr false))) else (law18_CommitPlays_b3 x6168 y7288 x6162 s6163 l6164)) else (ltt (IntKind.u64.wrap (x6162 + 1)) fun x7339 => (if (x7277 != x7339) = true then (if (y7288.1 != 7) = true then (some (.inr (.inr false))) else (law18_CommitPlays_b3 x6168 y7288 x6162 s6163 l6164)) else (if (y7288.1 != 0) = true then (some (.inr (.inr false))) else (chk (l6164.length + y6803.length ≤ 140737488355328 / 88) (law18_CommitPlays_b3 x6168 y7288 x7339 (bts x6782.f1) (l6164 ++ y6803))))))
def law18_CommitPlays_j1 (a0 : (List S36)) (o6161 : (Option S66)) (x6162 : Int) (s6163 : (List UInt8)) (l6164 : (List S63)) (x6168 : Int) (b6777 : Bool) : Option (((Option S66) × Int × (List UInt8) × (List S63) × Int) ⊕ ((Unit) ⊕ (Bool))) :=
  if b6777 = true then ((at_ a0 x6168).bind fun x6782 => (if (decide (1000 < (x6782.f1.length : Int))) = true then (some (.inr (.inr true))) else ((law18_fine x6782.f2).bind fun y6803 => (ltt (x6782.f0.tmod 8) fun x7241 => (if (decide (x7241 < 6)) = true then (ltt (IntKind.u64.wrap (x6162 + 1)) fun x7246 => ((commit_Put o6161 x7246 x6782.f1 y6803).bind fun y7256 => (if (y7256.1 != 0) = true then (some (.inr (.inr false))) else (chk (l6164.length + y6803.length ≤ 140737488355328 / 88) (law18_CommitPlays_b2 x6168 y7256.2 x7246 (bts x6782.f1) (l6164 ++ y6803)))))) else (if (x7241 == 6) = true then (ltt (IntKind.u64.wrap x6782.f3) fun x7277 => ((commit_Put o6161 x7277 x6782.f1 y6803).bind fun y7288 => (if (decide (x7277 < 1)) = true then (law18_CommitPlays_j4 x6162 s6163 l6164 x6168 x6782 y6803 x7277 y7288 true) else (law18_CommitPlays_j4 x6162 s6163 l6164 x6168 x6782 y6803 x7277 y7288 (decide (125 < x7277)))))) else (law18_CommitPlays_b2 x6168 o6161 x6162 s6163 l6164))))))) else (some (.inr (.inl ())))
def law18_CommitPlays_l1 (a0 : (List S36)) (o6161 : (Option S66)) (x6162 : Int) (s6163 : (List UInt8)) (l6164 : (List S63)) (x6168 : Int) : Option (((Option S66) × Int × (List UInt8) × (List S63) × Int) ⊕ ((Unit) ⊕ (Bool))) :=
  if (decide (x6168 < (a0.length : Int))) = true then (law18_CommitPlays_j1 a0 o6161 x6162 s6163 l6164 x6168 (decide (x6168 < 25))) else (law18_CommitPlays_j1 a0 o6161 x6162 s6163 l6164 x6168 false)
def law18_CommitPlays (a0 : (List S36)) : Option (Bool) :=
  (law18_awake).bind fun y104 => (if (!y104) = true then (some false) else ((files_New 1048576).bind fun y113 => ((files_Store_Append y113.1 [111, 116, 104, 101, 114] [120]).bind fun y118 => ((loop (fun s => law18_CommitPlays_l1 a0 s.1 s.2.1 s.2.2.1 s.2.2.2.1 s.2.2.2.2) (y118.2, 0, [], [], 0)).bind fun t => match t with | (.inl t) => law18_CommitPlays_x1_0 | (.inr t) => some t))))
end
theorem F_law18_CommitPlays {r : World} {L : List HP} {w : World} {Z : Nat → Prop} {wz : World} (a0 : (List S36)) (A0 : Option Addr) (n0 : Nat) (c0 : Nat) {y : (Bool)} (G : law18_CommitPlays a0 = some y) (ha0 : Imm Z wz (kz36 Z wz) A0 n0 c0 a0) (hG0 : Imm Z wz (kI .u32) (some ⟨0, 0, none⟩) 16 16 gl_page_table) (hG1 : Gc Z wz 1 isI64) (hG2 : Gc Z wz 2 isEr) (hG3 : Gc Z wz 3 isEr) (X : SH r (zone Z wz :: L) w) :
  Ret Tryz.prog 3 #[.slice A0 n0 c0] w fun v w' => ∃ (Z' : Nat → Prop) (wz' : World), v = .bool y ∧ Sub Z wz Z' wz' ∧ SH r (zone Z' wz' :: L) w' := by
 refine enter Tryz.func3 rfl Tryz.ntmps3 [(0, .slice A0 n0 c0)] rfl (by simp) ?_
 intro U J Qf hQ hQn
 unfold law18_CommitPlays at G
 refine ws fun K100 hK100 => ?_
 refine x_m J rfl fun U J => ?_
 refine wn (hK100 _ _ ?_)
 refine wp_seq_k fun K101 hK101 => ?_
 refine ws fun K102 hK102 => ?_
 obtain ⟨y103, h104, G⟩ := bnd G
 refine x_call' en7 J (F_law18_awake (L := L) h104 hG0 hG1 hG2 hG3 X) (fun v U w hR J => ?_) rfl
 obtain ⟨Z105, wz106, rfl, h107, X⟩ := hR
 have h108 := Imm.kind (d' := (kz36 Z105 wz106)) (Imm.sub ha0 h107) rfl (kz36_sub h107)
 refine x_v J (r_not rfl (J.ev rfl)) rfl fun U J => ?_
 refine wn (hK102 _ _ ?_)
 refine c_if J rfl (fun hb109 => ?_) fun hb109 => ?_
 ·replace G := ift hb109 G
  refine ws fun K110 hK110 => ?_
  refine x_m J rfl fun U J => ?_
  refine wn (hK110 _ _ ?_)
  refine wp_ret ?_
  cases G
  refine hQ _ _ ?_
  refine lv Tryz.results3 J rfl ?_
  exact ⟨Z105, wz106, rfl, h107, X⟩
 replace G := iff' hb109 G
 refine wp_skip ?_
 refine hK101 _ _ ?_
 refine ws fun K111 hK111 => ?_
 obtain ⟨y112, h113, G⟩ := bnd G
 refine x_call' en8 J (F_files_New (L := zone Z105 wz106 :: L) 1048576 h113 X) (fun v U w hR J => ?_) rfl
 obtain ⟨p114, rfl, X⟩ := hR
 refine x_m J rfl fun U J => ?_
 refine x_v J (r_extract rfl (J.ev rfl) rfl) rfl fun U J => ?_
 refine x_v J (r_extract rfl (J.ev rfl) rfl) rfl fun U J => ?_
 refine x_m J rfl fun U J => ?_
 refine x_m J rfl fun U J => ?_
 refine wn (hK111 _ _ ?_)
 refine ws fun K115 hK115 => ?_
 refine x_m J rfl fun U J => ?_
 refine x_bsl' (d := (kI .u8)) (e := 5) (ps := #[(0, .int .u8 120)]) (cells := [.int .u8 120]) (xs := [120]) (fun w => by kernel_rfl) rfl ⟨[.int .u8 120], _, rfl, rfl, rfl⟩ J X (fun g116 U w X J => ?_) rfl
 replace X := own_ownm (by decide) X
 refine x_cvM' 0 uu29 uu5 J X rfl (fun  U w X J => ?_) rfl
 replace X := X.pk 1
 obtain ⟨y117, h118, G⟩ := bnd G
 refine x_call' en9 J (F_files_Store_Append (L := ownm 5 (some ⟨g116, 0, none⟩) 1 1 [120] :: zone Z105 wz106 :: L) y112.1 [111, 116, 104, 101, 114] [120] p114 (some ⟨g116, 0, none⟩) 1 1 h118 (RdL.ownm 0 rfl (X.dropN 1)) X) (fun v U w hR J => ?_) rfl
 obtain ⟨rfl, X⟩ := hR
 refine wn (hK115 _ _ ?_)
 refine ws fun K119 hK119 => ?_
 refine x_alloc' (cs := [.int .u64 0, str [], .slice none 0 0]) zr33 J X (fun g120 U w X J => ?_) rfl
 refine wn (hK119 _ _ ?_)
 refine wp_seq_k fun K121 hK121 => ?_
 refine ws fun K122 hK122 => ?_
 refine x_m J rfl fun U J => ?_
 refine wn (hK122 _ _ ?_)
 refine wp_block_k fun Kx123 hKx123 => ?_
 have hb1 : law18_CommitPlays_b1 = some y → ∀ (Z124 : Nat → Prop) (wz125 : World) (h126 : Sub Z wz Z124 wz125) (U : Act) (w : World), FR 151 [] U [] → SH r (zone Z124 wz125 :: L) w → Kx123 U w := by
  intro G Z124 wz125 h126 U w J X
  unfold law18_CommitPlays_b1 at G
  refine hKx123 _ _ ?_
  refine hK121 _ _ ?_
  refine ws fun K127 hK127 => ?_
  refine x_m J rfl fun U J => ?_
  refine wn (hK127 _ _ ?_)
  refine wp_ret ?_
  cases G
  refine hQ _ _ ?_
  refine lv Tryz.results3 J rfl ?_
  exact ⟨Z124, wz125, rfl, h126, X⟩
 obtain ⟨t128, hl128, G⟩ := bnd G
 have hR128 := G
 have hx128_0 : (.inl ()) = t128 → ∀ (Z129 : Nat → Prop) (wz130 : World) (h128 : Sub Z wz Z129 wz130) (U : Act) (w : World), FR 151 [] U [] → SH r (zone Z129 wz130 :: L) w → Kx123 U w := by
  intro ht Z129 wz130 h128 U w J X
  subst ht
  replace G : law18_CommitPlays_x1_0 = some y := G
  unfold law18_CommitPlays_x1_0 at G
  exact hb1 G Z129 wz130 h128 U w (J.sub _ rfl) X
 replace X := SH.nil_own (d := k63) (e := 63) X
 replace X := X.drop 3 |>.pk 3 |>.pk 1 |>.pk 3 |>.pk 3
 refine wp_loop_fn hl128 (fun s U w => ∃ (Z131 : Nat → Prop) (wz132 : World) (A133 : Option Addr) (n134 : Nat) (c135 : Nat), Sub Z wz Z131 wz132 ∧ Imm Z131 wz132 (kz36 Z131 wz132) A0 n0 c0 a0 ∧ FR 151 [] U [(0, .slice A0 n0 c0), (3, .pointer p114), (5, (pP g120)), (6, .int .i64 s.2.2.2.2)] ∧ SH r (blk g120 33 [.int .u64 s.2.1, str s.2.2.1, .slice A133 n134 c135] :: optP (obj66) p114 s.1 :: own k63 63 A133 n134 c135 s.2.2.2.1 :: zone Z131 wz132 :: L) w) ⟨Z105, wz106, none, 0, 0, h107, h108, J.sub _ rfl, X⟩ ?_
 intro N128 s128 o128 G N128_ T128_ U w hLab
 obtain ⟨o136, x137, s138, l139, x140⟩ := s128
 replace G : law18_CommitPlays_l1 a0 o136 x137 s138 l139 x140 = some o128 := G
 unfold law18_CommitPlays_l1 at G
 try dsimp only at hLab
 obtain ⟨Z131, wz132, A133, n134, c135, h141, h142, J, X⟩ := hLab
 refine wp_seq_k fun K143 hK143 => ?_
 refine wp_seq_k fun K144 hK144 => ?_
 have hj1 : ∀ (b145 : Bool), law18_CommitPlays_j1 a0 o136 x137 s138 l139 x140 b145 = some o128 → ∀ (U : Act) (w : World), FR 151 [] U [(0, .slice A0 n0 c0), (3, .pointer p114), (5, (pP g120)), (6, .int .i64 x140), (33, .bool b145)] → SH r (blk g120 33 [.int .u64 x137, str s138, .slice A133 n134 c135] :: optP (obj66) p114 o136 :: own k63 63 A133 n134 c135 l139 :: zone Z131 wz132 :: L) w → K144 U w := by
  intro b145 G U w J X
  unfold law18_CommitPlays_j1 at G
  refine hK144 _ _ ?_
  refine c_if J rfl (fun hb146 => ?_) fun hb146 => ?_
  ·replace G := ift hb146 G
   refine wp_skip ?_
   refine hK143 _ _ ?_
   refine wp_seq_k fun K147 hK147 => ?_
   refine wp_block_k fun Kx148 hKx148 => ?_
   refine ws fun K149 hK149 => ?_
   refine x_m J rfl fun U J => ?_
   refine x_m J rfl fun U J => ?_
   obtain ⟨x150, h151, G⟩ := bnd G
   refine x_ia' uu22 sz36 (X.imm 3 h142 rfl) h151 J (fun U J => ?_) rfl
   obtain ⟨cs, hV, hc152⟩ := el (X.imm 3 h142 rfl) h151
   obtain ⟨A153, n154, c155, A156, n157, c158, A159, n160, c161, rfl, h162, h163, h164⟩ := hV
   refine x_lda' (cs := [.int .u8 x150.f0, .slice A153 n154 c155, .slice A156 n157 c158, .int .u8 x150.f3, .slice A159 n160 c161]) uu36 sz36 (fun j u h => by rw [ea_add]; exact hc152 _ _ h) J (fun U J => ?_) rfl
   refine x_alloc' (cs := [.int .u8 0, .slice none 0 0, .slice none 0 0, .int .u8 0, .slice none 0 0]) zr36 J X (fun g165 U w X J => ?_) rfl
   refine x_stb' 0 sz36 J X rfl (fun  U w X J => ?_) rfl
   refine wn (hK149 _ _ ?_)
   refine wp_seq_k fun K166 hK166 => ?_
   refine ws fun K167 hK167 => ?_
   refine x_fab' fa36_1 J (fun U J => ?_) rfl
   refine x_ld' uu29 (X.cell 0 rfl 1 _ rfl) J (fun U J => ?_) rfl
   refine x_len' uu29 (X.imm 4 h162 rfl).2.1 J (fun U J => ?_) rfl
   refine x_v J (r_gtI rfl (J.ev rfl) (J.ev rfl)) rfl fun U J => ?_
   refine wn (hK167 _ _ ?_)
   refine c_if J rfl (fun hb168 => ?_) fun hb168 => ?_
   ·replace G := ift hb168 G
    refine ws fun K169 hK169 => ?_
    refine x_m J rfl fun U J => ?_
    refine wn (hK169 _ _ ?_)
    refine wp_ret ?_
    replace X := X.drop 0 |>.drop 0 |>.drop 0 |>.drop 0
    cases G
    have ht := T128_ _ rfl
    subst ht
    replace G := hR128
    replace G : some true = some y := G
    cases G
    refine hQ _ _ ?_
    refine lv Tryz.results3 J rfl ?_
    exact ⟨Z131, wz132, rfl, h141, X⟩
   replace G := iff' hb168 G
   refine wp_skip ?_
   refine hK166 _ _ ?_
   refine ws fun K170 hK170 => ?_
   refine x_fab' fa36_2 J (fun U J => ?_) rfl
   refine x_ld' uu31 (X.cell 0 rfl 2 _ rfl) J (fun U J => ?_) rfl
   obtain ⟨y171, h172, G⟩ := bnd G
   refine x_call' en10 J (F_law18_fine (L := blk g165 36 [.int .u8 x150.f0, .slice A153 n154 c155, .slice A156 n157 c158, .int .u8 x150.f3, .slice A159 n160 c161] :: blk g120 33 [.int .u64 x137, str s138, .slice A133 n134 c135] :: optP (obj66) p114 o136 :: own k63 63 A133 n134 c135 l139 :: zone Z131 wz132 :: L) x150.f2 A156 n157 c158 h172 (h163.rdl 4 rfl) X) (fun v U w hR J => ?_) rfl
   obtain ⟨B173, m174, d175, rfl, X⟩ := hR
   refine x_m J rfl fun U J => ?_
   refine wn (hK170 _ _ ?_)
   refine wp_seq_k fun K176 hK176 => ?_
   refine wp_block_k fun Kx177 hKx177 => ?_
   have hb2 : ∀ (o178 : (Option S66)) (x179 : Int) (s180 : (List UInt8)) (l181 : (List S63)), law18_CommitPlays_b2 x140 o178 x179 s180 l181 = some o128 → ∀ (Z182 : Nat → Prop) (wz183 : World) (A184 : Option Addr) (n185 : Nat) (c186 : Nat) (h187 : Sub Z wz Z182 wz183) (h188 : Imm Z182 wz183 (kz36 Z182 wz183) A0 n0 c0 a0) (U : Act) (w : World), FR 151 [] U [(0, .slice A0 n0 c0), (3, .pointer p114), (5, (pP g120)), (6, .int .i64 x140)] → SH r (blk g120 33 [.int .u64 x179, str s180, .slice A184 n185 c186] :: optP (obj66) p114 o178 :: own k63 63 A184 n185 c186 l181 :: zone Z182 wz183 :: L) w → Kx177 U w := by
    intro o178 x179 s180 l181 G Z182 wz183 A184 n185 c186 h187 h188 U w J X
    unfold law18_CommitPlays_b2 at G
    refine hKx177 _ _ ?_
    refine hK176 _ _ ?_
    refine ws fun K189 hK189 => ?_
    refine x_m J rfl fun U J => ?_
    replace X := X.pk 3 |>.pk 2
    obtain ⟨y190, h191, G⟩ := bnd G
    refine x_call' en12 J (F_commit_Recover (L := blk g120 33 [.int .u64 x179, str s180, .slice A184 n185 c186] :: own k63 63 A184 n185 c186 l181 :: L) o178 p114 h191 (Imm.sub hG0 h187) (Gc.sub hG1 h187) (Gc.sub hG2 h187) (Gc.sub hG3 h187) X) (fun v U w hR J => ?_) rfl
    obtain ⟨Z192, wz193, B194, m195, d196, B197, m198, d199, rfl, h200, X⟩ := hR
    have h201 := Imm.kind (d' := (kz36 Z192 wz193)) (Imm.sub h188 h200) rfl (kz36_sub h200)
    refine x_m J rfl fun U J => ?_
    refine x_v J (r_extract rfl (J.ev rfl) rfl) rfl fun U J => ?_
    refine x_v J (r_extract rfl (J.ev rfl) rfl) rfl fun U J => ?_
    refine x_v J (r_extract rfl (J.ev rfl) rfl) rfl fun U J => ?_
    refine x_v J (r_extract rfl (J.ev rfl) rfl) rfl fun U J => ?_
    refine x_m J rfl fun U J => ?_
    refine x_m J rfl fun U J => ?_
    refine x_m J rfl fun U J => ?_
    refine x_m J rfl fun U J => ?_
    refine wn (hK189 _ _ ?_)
    refine ws fun K202 hK202 => ?_
    refine x_m J rfl fun U J => ?_
    refine wn (hK202 _ _ ?_)
    refine wp_seq_k fun K203 hK203 => ?_
    have hj2 : ∀ (x204 : Int), law18_CommitPlays_j2 x140 x179 s180 l181 y190 x204 = some o128 → ∀ (U : Act) (w : World), FR 151 [] U [(0, .slice A0 n0 c0), (3, .pointer p114), (5, (pP g120)), (6, .int .i64 x140), (11, .int .u64 y190.1), (12, .slice B194 m195 d196), (13, .slice B197 m198 d199), (14, .int .i64 y190.2.2.2.1), (15, .int .i64 x204)] → SH r (blk g120 33 [.int .u64 x179, str s180, .slice A184 n185 c186] :: optP (obj66) p114 y190.2.2.2.2 :: own k63 63 A184 n185 c186 l181 :: own (kI .u8) 5 B194 m195 d196 y190.2.1 :: own k63 63 B197 m198 d199 y190.2.2.1 :: zone Z192 wz193 :: L) w → K203 U w := by
     intro x204 G U w J X
     unfold law18_CommitPlays_j2 at G
     refine hK203 _ _ ?_
     refine wp_seq_k fun K205 hK205 => ?_
     have hj3 : ∀ (b206 : Bool), law18_CommitPlays_j3 x140 x179 s180 l181 y190 b206 = some o128 → ∀ (U : Act) (w : World), FR 151 [] U [(0, .slice A0 n0 c0), (3, .pointer p114), (5, (pP g120)), (6, .int .i64 x140), (150, .bool b206)] → SH r (blk g120 33 [.int .u64 x179, str s180, .slice A184 n185 c186] :: optP (obj66) p114 y190.2.2.2.2 :: own k63 63 A184 n185 c186 l181 :: zone Z192 wz193 :: L) w → K205 U w := by
      intro b206 G U w J X
      unfold law18_CommitPlays_j3 at G
      refine hK205 _ _ ?_
      refine c_if J rfl (fun hb207 => ?_) fun hb207 => ?_
      ·replace G := ift hb207 G
       refine ws fun K208 hK208 => ?_
       refine x_m J rfl fun U J => ?_
       refine wn (hK208 _ _ ?_)
       refine wp_ret ?_
       replace X := X.drop 0 |>.drop 0 |>.drop 0
       cases G
       have ht := T128_ _ rfl
       subst ht
       replace G := hR128
       replace G : some false = some y := G
       cases G
       refine hQ _ _ ?_
       refine lv Tryz.results3 J rfl ?_
       exact ⟨Z192, wz193, rfl, (Sub.trans h187 h200), X⟩
      replace G := iff' hb207 G
      refine wp_skip ?_
      refine hKx148 _ _ ?_
      refine hK147 _ _ ?_
      refine wp_reg ?_
      refine x_m J rfl fun U J => ?_
      obtain ⟨x209, h210, G⟩ := ltt_ G
      refine x_v (v := .int .i64 x209) J (rv_i h210 (r_add rfl (J.ev rfl) (J.ev rfl))) rfl fun U J => ?_
      refine x_m J rfl fun U J => ?_
      refine wpList_nil ?_
      cases G
      exact ⟨_, N128_ _ rfl, Z192, wz193, A184, n185, c186, (Sub.trans h187 h200), h201, J.sub _ rfl, X⟩
     refine wp_reg ?_
     refine x_m J rfl fun U J => ?_
     refine x_v J (r_neI rfl (J.ev rfl) (J.ev rfl)) rfl fun U J => ?_
     refine x_m J rfl fun U J => ?_
     refine bcase (b := y190.2.2.2.1 != 0) (fun hb211 => ?_) fun hb211 => ?_
     ·replace G := ift hb211 G
      refine xO 6 hb211 J rfl fun U J => ?_
      refine x_pickt' hb211 J (fun U J => ?_) rfl
      refine x_m J rfl fun U J => ?_
      refine xO 5 rfl J rfl fun U J => ?_
      refine x_pickt' rfl J (fun U J => ?_) rfl
      refine wpList_nil ?_
      replace X := X.drop 3 |>.drop 3
      exact hj3 true G U w (J.sub _ rfl) X
     replace G := iff' hb211 G
     refine x_on' hb211 J ?_ rfl
     refine x_m J rfl fun U J => ?_
     refine x_on' hb211 J ?_ rfl
     refine x_m J rfl fun U J => ?_
     refine x_on' hb211 J ?_ rfl
     refine x_m J rfl fun U J => ?_
     refine x_on' hb211 J ?_ rfl
     refine x_lda' (ad := ⟨g120, 0, none⟩) (cs := [.int .u64 x179, str s180, .slice A184 n185 c186]) uu33 sz33 (fun j u h => by rw [add_mk, Nat.zero_add]; exact X.cell 0 rfl j u h) J (fun U J => ?_) rfl
     refine x_on' hb211 J ?_ rfl
     obtain ⟨y212, h213, G⟩ := bnd G
     refine x_call' en13 J (F_law18_has (L := blk g120 33 [.int .u64 x179, str s180, .slice A184 n185 c186] :: optP (obj66) p114 y190.2.2.2.2 :: own k63 63 A184 n185 c186 l181 :: own (kI .u8) 5 B194 m195 d196 y190.2.1 :: own k63 63 B197 m198 d199 y190.2.2.1 :: zone Z192 wz193 :: L) y190.1 y190.2.1 y190.2.2.1 (⟨x179, s180, l181⟩ : S33) B194 m195 d196 B197 m198 d199 A184 n185 c186 h213 (RdL.own 3 rfl (X.dropN 0)) (RdL.own 4 rfl (X.dropN 0)) (RdL.own 2 rfl (X.dropN 0)) X) (fun v U w hR J => ?_) rfl
     obtain ⟨rfl, X⟩ := hR
     refine x_on' hb211 J ?_ rfl
     refine x_v J (r_not rfl (J.ev rfl)) rfl fun U J => ?_
     refine x_pickf' hb211 J (fun U J => ?_) rfl
     refine x_m J rfl fun U J => ?_
     refine bcase (b := !y212) (fun hb214 => ?_) fun hb214 => ?_
     ·replace G := ift hb214 G
      refine xO 5 hb214 J rfl fun U J => ?_
      refine x_pickt' hb214 J (fun U J => ?_) rfl
      refine wpList_nil ?_
      replace X := X.drop 3 |>.drop 3
      exact hj3 true G U w (J.sub _ rfl) X
     replace G := iff' hb214 G
     refine x_on' hb214 J ?_ rfl
     refine x_m J rfl fun U J => ?_
     refine x_on' hb214 J ?_ rfl
     replace X := X.pk 1
     obtain ⟨y215, h216, G⟩ := bnd G
     refine x_call' en14 J (F_files_Store_List (L := blk g120 33 [.int .u64 x179, str s180, .slice A184 n185 c186] :: own k63 63 A184 n185 c186 l181 :: own (kI .u8) 5 B194 m195 d196 y190.2.1 :: own k63 63 B197 m198 d199 y190.2.2.1 :: zone Z192 wz193 :: L) y190.2.2.2.2 p114 h216 X) (fun v U w hR J => ?_) rfl
     obtain ⟨B217, m218, d219, rfl, X⟩ := hR
     refine x_on' hb214 J ?_ rfl
     refine x_len' uu42 (X.rd 0 rfl).2.1 J (fun U J => ?_) rfl
     refine x_on' hb214 J ?_ rfl
     refine x_m J rfl fun U J => ?_
     refine x_on' hb214 J ?_ rfl
     refine x_v J (r_neI rfl (J.ev rfl) (J.ev rfl)) rfl fun U J => ?_
     refine x_pickf' hb214 J (fun U J => ?_) rfl
     refine wpList_nil ?_
     replace X := X.drop 0 |>.drop 3 |>.drop 3 |>.pk 3 |>.pk 3 |>.pk 2 |>.pk 3
     exact hj3 ((y215.length : Int) != x204) G U w (J.sub _ rfl) X
    refine ws fun K220 hK220 => ?_
    refine x_fab' fa33_0 J (fun U J => ?_) rfl
    refine x_ld' uu30 (X.cell 4 rfl 0 _ rfl) J (fun U J => ?_) rfl
    refine x_v J (r_gtI rfl (J.ev rfl) (J.ev rfl)) rfl fun U J => ?_
    refine wn (hK220 _ _ ?_)
    refine c_if J rfl (fun hb221 => ?_) fun hb221 => ?_
    ·replace G := ift hb221 G
     refine wp_reg ?_
     refine x_fab' fa33_0 J (fun U J => ?_) rfl
     refine x_ld' uu30 (X.cell 4 rfl 0 _ rfl) J (fun U J => ?_) rfl
     obtain ⟨x222, h223, G⟩ := ltt_ G
     refine x_v (v := .int .i64 x222) J (rv_i h223 (r_convI uu30 uu3 rfl (J.ev rfl))) rfl fun U J => ?_
     obtain ⟨x224, h225, G⟩ := ltt_ G
     refine x_v (v := .int .i64 x224) J (rv_i h225 (r_add rfl (J.ev rfl) (J.ev rfl))) rfl fun U J => ?_
     refine x_m J rfl fun U J => ?_
     refine wpList_nil ?_
     replace X := X.pk 3 |>.pk 2 |>.pk 2 |>.pk 5 |>.pk 4 |>.pk 5
     exact hj2 x224 G U w (J.sub _ rfl) X
    replace G := iff' hb221 G
    refine wp_skip ?_
    replace X := X.pk 3 |>.pk 2 |>.pk 2 |>.pk 5 |>.pk 4 |>.pk 5
    exact hj2 1 G U w (J.sub _ rfl) X
   refine ws fun K226 hK226 => ?_
   refine x_fab' fa36_0 J (fun U J => ?_) rfl
   refine x_ld' uu5 (X.cell 1 rfl 0 _ rfl) J (fun U J => ?_) rfl
   obtain ⟨x227, h228, G⟩ := ltt_ G
   refine x_v (v := .int .u8 x227) J (rv_i h228 (r_rem rfl (J.ev rfl) (J.ev rfl) (by decide))) rfl fun U J => ?_
   refine x_v J (r_ltI rfl (J.ev rfl) (J.ev rfl)) rfl fun U J => ?_
   refine x_m J rfl fun U J => ?_
   refine wn (hK226 _ _ ?_)
   refine c_if J rfl (fun hb229 => ?_) fun hb229 => ?_
   ·replace G := ift hb229 G
    refine wp_seq_k fun K230 hK230 => ?_
    refine ws fun K231 hK231 => ?_
    refine x_m J rfl fun U J => ?_
    refine x_fab' fa33_0 J (fun U J => ?_) rfl
    refine x_ld' uu30 (X.cell 2 rfl 0 _ rfl) J (fun U J => ?_) rfl
    obtain ⟨x232, h233, G⟩ := ltt_ G
    refine x_v (v := .int .u64 x232) J (rv_i h233 (r_add rfl (J.ev rfl) (J.ev rfl))) rfl fun U J => ?_
    refine x_fab' fa36_1 J (fun U J => ?_) rfl
    refine x_ld' uu29 (X.cell 1 rfl 1 _ rfl) J (fun U J => ?_) rfl
    refine x_m J rfl fun U J => ?_
    replace X := X.pk 5 |>.pk 1
    obtain ⟨Z234, wz235, X, h236, sb7251⟩ := SH.freeze (n := m174) (c := d175) (A := B173) X
    have h237 := Imm.kind (d' := (kz36 Z234 wz235)) (Imm.sub h142 sb7251) rfl (kz36_sub sb7251)
    have h238 := Imm.sub h162 sb7251
    have h239 := Imm.sub h163 sb7251
    have h240 := Imm.sub h164 sb7251
    replace X := X.pk 3
    obtain ⟨y241, h242, G⟩ := bnd G
    refine x_call' en11 J (F_commit_Put (L := blk g165 36 [.int .u8 x150.f0, .slice A153 n154 c155, .slice A156 n157 c158, .int .u8 x150.f3, .slice A159 n160 c161] :: blk g120 33 [.int .u64 x137, str s138, .slice A133 n134 c135] :: own k63 63 A133 n134 c135 l139 :: L) o136 x232 x150.f1 y171 p114 A153 n154 c155 B173 m174 d175 h242 h238 h236 (Imm.sub hG0 (Sub.trans h141 sb7251)) (Gc.sub hG1 (Sub.trans h141 sb7251)) (Gc.sub hG2 (Sub.trans h141 sb7251)) (Gc.sub hG3 (Sub.trans h141 sb7251)) X) (fun v U w hR J => ?_) rfl
    obtain ⟨Z243, wz244, rfl, h245, X⟩ := hR
    have h246 := Imm.kind (d' := (kz36 Z243 wz244)) (Imm.sub h237 h245) rfl (kz36_sub h245)
    have h247 := Imm.sub h238 h245
    have h248 := Imm.sub h239 h245
    have h249 := Imm.sub h240 h245
    have h250 := Imm.sub h236 h245
    refine x_v J (r_neI rfl (J.ev rfl) (J.ev rfl)) rfl fun U J => ?_
    refine wn (hK231 _ _ ?_)
    refine c_if J rfl (fun hb251 => ?_) fun hb251 => ?_
    ·replace G := ift hb251 G
     refine ws fun K252 hK252 => ?_
     refine x_m J rfl fun U J => ?_
     refine wn (hK252 _ _ ?_)
     refine wp_ret ?_
     replace X := X.drop 0 |>.drop 1 |>.drop 1 |>.drop 1
     cases G
     have ht := T128_ _ rfl
     subst ht
     replace G := hR128
     replace G : some false = some y := G
     cases G
     refine hQ _ _ ?_
     refine lv Tryz.results3 J rfl ?_
     exact ⟨Z243, wz244, rfl, (Sub.trans (Sub.trans h141 sb7251) h245), X⟩
    replace G := iff' hb251 G
    refine wp_skip ?_
    refine hK230 _ _ ?_
    refine ws fun K253 hK253 => ?_
    refine x_fab' fa33_0 J (fun U J => ?_) rfl
    refine x_ld' uu30 (X.cell 3 rfl 0 _ rfl) J (fun U J => ?_) rfl
    refine x_v (v := .int .u64 x232) J (rv_i h233 (r_add rfl (J.ev rfl) (J.ev rfl))) rfl fun U J => ?_
    refine x_fab' fa33_0 J (fun U J => ?_) rfl
    refine x_stb' 3 sz30 J X rfl (fun  U w X J => ?_) rfl
    refine wn (hK253 _ _ ?_)
    refine ws fun K254 hK254 => ?_
    refine x_fab' fa36_1 J (fun U J => ?_) rfl
    refine x_ld' uu29 (X.cell 3 rfl 1 _ rfl) J (fun U J => ?_) rfl
    refine x_b2s' uu29 uu5 uu9 (X.imm 2 h247 rfl) J (fun U J => ?_) rfl
    refine x_fab' fa33_1 J (fun U J => ?_) rfl
    refine x_stb' 0 sz9 J X rfl (fun  U w X J => ?_) rfl
    refine wn (hK254 _ _ ?_)
    refine wp_reg ?_
    refine x_fab' fa33_2 J (fun U J => ?_) rfl
    refine x_ld' uu31 (X.cell 0 rfl 2 _ rfl) J (fun U J => ?_) rfl
    refine x_m J rfl fun U J => ?_
    obtain ⟨h255, G⟩ := chk_some G
    have hr := X.imm 2 h250 rfl
    refine x_app' 4 inf63 uu31 J X hr.1 hr.2.1 h255 rfl (fun A256 n257 c258 U w X J => ?_) rfl
    refine x_fab' fa33_2 J (fun U J => ?_) rfl
    refine x_stb' 1 sz31 J X rfl (fun  U w X J => ?_) rfl
    refine wpList_nil ?_
    replace X := X.drop 4 |>.pk 3 |>.pk 2 |>.pk 3 |>.pk 3
    exact hb2 y241.2 x232 (bts x150.f1) (l139 ++ y171) G Z243 wz244 A256 n257 c258 (Sub.trans (Sub.trans h141 sb7251) h245) h246 U w (J.sub _ rfl) X
   replace G := iff' hb229 G
   refine ws fun K259 hK259 => ?_
   refine x_fab' fa36_0 J (fun U J => ?_) rfl
   refine x_ld' uu5 (X.cell 1 rfl 0 _ rfl) J (fun U J => ?_) rfl
   refine x_v (v := .int .u8 x227) J (rv_i h228 (r_rem rfl (J.ev rfl) (J.ev rfl) (by decide))) rfl fun U J => ?_
   refine x_v J (r_eqI rfl (J.ev rfl) (J.ev rfl)) rfl fun U J => ?_
   refine x_m J rfl fun U J => ?_
   refine wn (hK259 _ _ ?_)
   refine c_if J rfl (fun hb260 => ?_) fun hb260 => ?_
   ·replace G := ift hb260 G
    refine ws fun K261 hK261 => ?_
    refine x_fab' fa36_3 J (fun U J => ?_) rfl
    refine x_ld' uu5 (X.cell 1 rfl 3 _ rfl) J (fun U J => ?_) rfl
    obtain ⟨x262, h263, G⟩ := ltt_ G
    refine x_v (v := .int .u64 x262) J (rv_i h263 (r_convI uu5 uu30 rfl (J.ev rfl))) rfl fun U J => ?_
    refine x_m J rfl fun U J => ?_
    refine wn (hK261 _ _ ?_)
    refine ws fun K264 hK264 => ?_
    refine x_m J rfl fun U J => ?_
    refine x_m J rfl fun U J => ?_
    refine x_fab' fa36_1 J (fun U J => ?_) rfl
    refine x_ld' uu29 (X.cell 1 rfl 1 _ rfl) J (fun U J => ?_) rfl
    refine x_m J rfl fun U J => ?_
    replace X := X.pk 5 |>.pk 1
    obtain ⟨Z265, wz266, X, h267, sb7283⟩ := SH.freeze (n := m174) (c := d175) (A := B173) X
    have h268 := Imm.kind (d' := (kz36 Z265 wz266)) (Imm.sub h142 sb7283) rfl (kz36_sub sb7283)
    have h269 := Imm.sub h162 sb7283
    have h270 := Imm.sub h163 sb7283
    have h271 := Imm.sub h164 sb7283
    replace X := X.pk 3
    obtain ⟨y272, h273, G⟩ := bnd G
    refine x_call' en11 J (F_commit_Put (L := blk g165 36 [.int .u8 x150.f0, .slice A153 n154 c155, .slice A156 n157 c158, .int .u8 x150.f3, .slice A159 n160 c161] :: blk g120 33 [.int .u64 x137, str s138, .slice A133 n134 c135] :: own k63 63 A133 n134 c135 l139 :: L) o136 x262 x150.f1 y171 p114 A153 n154 c155 B173 m174 d175 h273 h269 h267 (Imm.sub hG0 (Sub.trans h141 sb7283)) (Gc.sub hG1 (Sub.trans h141 sb7283)) (Gc.sub hG2 (Sub.trans h141 sb7283)) (Gc.sub hG3 (Sub.trans h141 sb7283)) X) (fun v U w hR J => ?_) rfl
    obtain ⟨Z274, wz275, rfl, h276, X⟩ := hR
    have h277 := Imm.kind (d' := (kz36 Z274 wz275)) (Imm.sub h268 h276) rfl (kz36_sub h276)
    have h278 := Imm.sub h269 h276
    have h279 := Imm.sub h270 h276
    have h280 := Imm.sub h271 h276
    have h281 := Imm.sub h267 h276
    refine x_m J rfl fun U J => ?_
    refine wn (hK264 _ _ ?_)
    refine wp_block_k fun Kx282 hKx282 => ?_
    have hb3 : ∀ (x283 : Int) (s284 : (List UInt8)) (l285 : (List S63)), law18_CommitPlays_b3 x140 y272 x283 s284 l285 = some o128 → ∀ (A286 : Option Addr) (n287 : Nat) (c288 : Nat) (U : Act) (w : World), FR 151 [] U [(0, .slice A0 n0 c0), (3, .pointer p114), (5, (pP g120)), (6, .int .i64 x140)] → SH r (blk g120 33 [.int .u64 x283, str s284, .slice A286 n287 c288] :: optP (obj66) p114 y272.2 :: own k63 63 A286 n287 c288 l285 :: zone Z274 wz275 :: L) w → Kx282 U w := by
     intro x283 s284 l285 G A286 n287 c288 U w J X
     unfold law18_CommitPlays_b3 at G
     refine hKx282 _ _ ?_
     exact hb2 y272.2 x283 s284 l285 G Z274 wz275 A286 n287 c288 (Sub.trans (Sub.trans h141 sb7283) h276) h277 U w (J.sub _ rfl) X
    refine wp_seq_k fun K289 hK289 => ?_
    have hj4 : ∀ (b290 : Bool), law18_CommitPlays_j4 x137 s138 l139 x140 x150 y171 x262 y272 b290 = some o128 → ∀ (U : Act) (w : World), FR 151 [] U [(0, .slice A0 n0 c0), (3, .pointer p114), (5, (pP g120)), (6, .int .i64 x140), (7, (pP g165)), (8, .slice B173 m174 d175), (9, .int .u64 x262), (10, .int .i64 y272.1), (103, .bool b290)] → SH r (blk g120 33 [.int .u64 x137, str s138, .slice A133 n134 c135] :: blk g165 36 [.int .u8 x150.f0, .slice A153 n154 c155, .slice A156 n157 c158, .int .u8 x150.f3, .slice A159 n160 c161] :: optP (obj66) p114 y272.2 :: own k63 63 A133 n134 c135 l139 :: zone Z274 wz275 :: L) w → K289 U w := by
     intro b290 G U w J X
     unfold law18_CommitPlays_j4 at G
     refine hK289 _ _ ?_
     refine c_if J rfl (fun hb291 => ?_) fun hb291 => ?_
     ·replace G := ift hb291 G
      refine ws fun K292 hK292 => ?_
      refine x_m J rfl fun U J => ?_
      refine x_v J (r_neI rfl (J.ev rfl) (J.ev rfl)) rfl fun U J => ?_
      refine wn (hK292 _ _ ?_)
      refine c_if J rfl (fun hb293 => ?_) fun hb293 => ?_
      ·replace G := ift hb293 G
       refine ws fun K294 hK294 => ?_
       refine x_m J rfl fun U J => ?_
       refine wn (hK294 _ _ ?_)
       refine wp_ret ?_
       replace X := X.drop 0 |>.drop 0 |>.drop 0 |>.drop 0
       cases G
       have ht := T128_ _ rfl
       subst ht
       replace G := hR128
       replace G : some false = some y := G
       cases G
       refine hQ _ _ ?_
       refine lv Tryz.results3 J rfl ?_
       exact ⟨Z274, wz275, rfl, (Sub.trans (Sub.trans h141 sb7283) h276), X⟩
      replace G := iff' hb293 G
      refine wp_skip ?_
      replace X := X.drop 1
      exact hb3 x137 s138 l139 G A133 n134 c135 U w (J.sub _ rfl) X
     replace G := iff' hb291 G
     refine ws fun K295 hK295 => ?_
     refine x_m J rfl fun U J => ?_
     refine x_fab' fa33_0 J (fun U J => ?_) rfl
     refine x_ld' uu30 (X.cell 0 rfl 0 _ rfl) J (fun U J => ?_) rfl
     obtain ⟨x296, h297, G⟩ := ltt_ G
     refine x_v (v := .int .u64 x296) J (rv_i h297 (r_add rfl (J.ev rfl) (J.ev rfl))) rfl fun U J => ?_
     refine x_v J (r_neI rfl (J.ev rfl) (J.ev rfl)) rfl fun U J => ?_
     refine x_m J rfl fun U J => ?_
     refine wn (hK295 _ _ ?_)
     refine c_if J rfl (fun hb298 => ?_) fun hb298 => ?_
     ·replace G := ift hb298 G
      refine ws fun K299 hK299 => ?_
      refine x_m J rfl fun U J => ?_
      refine x_v J (r_neI rfl (J.ev rfl) (J.ev rfl)) rfl fun U J => ?_
      refine wn (hK299 _ _ ?_)
      refine c_if J rfl (fun hb300 => ?_) fun hb300 => ?_
      ·replace G := ift hb300 G
       refine ws fun K301 hK301 => ?_
       refine x_m J rfl fun U J => ?_
       refine wn (hK301 _ _ ?_)
       refine wp_ret ?_
       replace X := X.drop 0 |>.drop 0 |>.drop 0 |>.drop 0
       cases G
       have ht := T128_ _ rfl
       subst ht
       replace G := hR128
       replace G : some false = some y := G
       cases G
       refine hQ _ _ ?_
       refine lv Tryz.results3 J rfl ?_
       exact ⟨Z274, wz275, rfl, (Sub.trans (Sub.trans h141 sb7283) h276), X⟩
      replace G := iff' hb300 G
      refine wp_skip ?_
      replace X := X.drop 1
      exact hb3 x137 s138 l139 G A133 n134 c135 U w (J.sub _ rfl) X
     replace G := iff' hb298 G
     refine wp_seq_k fun K302 hK302 => ?_
     refine ws fun K303 hK303 => ?_
     refine x_m J rfl fun U J => ?_
     refine x_v J (r_neI rfl (J.ev rfl) (J.ev rfl)) rfl fun U J => ?_
     refine wn (hK303 _ _ ?_)
     refine c_if J rfl (fun hb304 => ?_) fun hb304 => ?_
     ·replace G := ift hb304 G
      refine ws fun K305 hK305 => ?_
      refine x_m J rfl fun U J => ?_
      refine wn (hK305 _ _ ?_)
      refine wp_ret ?_
      replace X := X.drop 0 |>.drop 0 |>.drop 0 |>.drop 0
      cases G
      have ht := T128_ _ rfl
      subst ht
      replace G := hR128
      replace G : some false = some y := G
      cases G
      refine hQ _ _ ?_
      refine lv Tryz.results3 J rfl ?_
      exact ⟨Z274, wz275, rfl, (Sub.trans (Sub.trans h141 sb7283) h276), X⟩
     replace G := iff' hb304 G
     refine wp_skip ?_
     refine hK302 _ _ ?_
     refine ws fun K306 hK306 => ?_
     refine x_fab' fa33_0 J (fun U J => ?_) rfl
     refine x_ld' uu30 (X.cell 0 rfl 0 _ rfl) J (fun U J => ?_) rfl
     refine x_v (v := .int .u64 x296) J (rv_i h297 (r_add rfl (J.ev rfl) (J.ev rfl))) rfl fun U J => ?_
     refine x_fab' fa33_0 J (fun U J => ?_) rfl
     refine x_stb' 0 sz30 J X rfl (fun  U w X J => ?_) rfl
     refine wn (hK306 _ _ ?_)
     refine ws fun K307 hK307 => ?_
     refine x_fab' fa36_1 J (fun U J => ?_) rfl
     refine x_ld' uu29 (X.cell 1 rfl 1 _ rfl) J (fun U J => ?_) rfl
     refine x_b2s' uu29 uu5 uu9 (X.imm 4 h278 rfl) J (fun U J => ?_) rfl
     refine x_fab' fa33_1 J (fun U J => ?_) rfl
     refine x_stb' 0 sz9 J X rfl (fun  U w X J => ?_) rfl
     refine wn (hK307 _ _ ?_)
     refine wp_reg ?_
     refine x_fab' fa33_2 J (fun U J => ?_) rfl
     refine x_ld' uu31 (X.cell 0 rfl 2 _ rfl) J (fun U J => ?_) rfl
     refine x_m J rfl fun U J => ?_
     obtain ⟨h308, G⟩ := chk_some G
     have hr := X.imm 4 h281 rfl
     refine x_app' 3 inf63 uu31 J X hr.1 hr.2.1 h308 rfl (fun A309 n310 c311 U w X J => ?_) rfl
     refine x_fab' fa33_2 J (fun U J => ?_) rfl
     refine x_stb' 1 sz31 J X rfl (fun  U w X J => ?_) rfl
     refine wpList_nil ?_
     replace X := X.drop 2 |>.pk 3 |>.pk 2 |>.pk 3 |>.pk 3
     exact hb3 x296 (bts x150.f1) (l139 ++ y171) G A309 n310 c311 U w (J.sub _ rfl) X
    refine wp_reg ?_
    refine x_m J rfl fun U J => ?_
    refine x_v J (r_ltI rfl (J.ev rfl) (J.ev rfl)) rfl fun U J => ?_
    refine x_m J rfl fun U J => ?_
    refine bcase (b := decide (x262 < 1)) (fun hb312 => ?_) fun hb312 => ?_
    ·replace G := ift hb312 G
     refine xO 2 hb312 J rfl fun U J => ?_
     refine x_pickt' hb312 J (fun U J => ?_) rfl
     refine x_m J rfl fun U J => ?_
     refine wpList_nil ?_
     replace X := X.pk 1 |>.pk 4 |>.pk 2 |>.pk 3 |>.pk 4
     exact hj4 true G U w (J.sub _ rfl) X
    replace G := iff' hb312 G
    refine x_on' hb312 J ?_ rfl
    refine x_m J rfl fun U J => ?_
    refine x_on' hb312 J ?_ rfl
    refine x_v J (r_gtI rfl (J.ev rfl) (J.ev rfl)) rfl fun U J => ?_
    refine x_pickf' hb312 J (fun U J => ?_) rfl
    refine x_m J rfl fun U J => ?_
    refine wpList_nil ?_
    replace X := X.pk 1 |>.pk 4 |>.pk 2 |>.pk 3 |>.pk 4
    exact hj4 (decide (125 < x262)) G U w (J.sub _ rfl) X
   replace G := iff' hb260 G
   refine wp_skip ?_
   replace X := X.drop 0 |>.drop 0
   exact hb2 o136 x137 s138 l139 G Z131 wz132 A133 n134 c135 h141 h142 U w (J.sub _ rfl) X
  replace G := iff' hb146 G
  refine wp_exit ?_
  replace X := X.drop 0 |>.drop 0 |>.drop 0
  cases G
  exact hx128_0 (T128_ _ rfl) Z131 wz132 h141 U w (J.sub _ rfl) X
 refine wp_reg ?_
 refine x_m J rfl fun U J => ?_
 refine x_m J rfl fun U J => ?_
 refine x_len' uu22 (X.imm 3 h142 rfl).2.1 J (fun U J => ?_) rfl
 refine x_v J (r_ltI rfl (J.ev rfl) (J.ev rfl)) rfl fun U J => ?_
 refine x_m J rfl fun U J => ?_
 refine bcase (b := decide (x140 < (a0.length : Int))) (fun hb313 => ?_) fun hb313 => ?_
 ·replace G := ift hb313 G
  refine x_on' hb313 J ?_ rfl
  refine x_m J rfl fun U J => ?_
  refine x_on' hb313 J ?_ rfl
  refine x_v J (r_ltI rfl (J.ev rfl) (J.ev rfl)) rfl fun U J => ?_
  refine x_pickt' hb313 J (fun U J => ?_) rfl
  refine wpList_nil ?_
  exact hj1 (decide (x140 < 25)) G U w (J.sub _ rfl) X
 replace G := iff' hb313 G
 refine xO 2 hb313 J rfl fun U J => ?_
 refine x_pickf' hb313 J (fun U J => ?_) rfl
 refine wpList_nil ?_
 exact hj1 false G U w (J.sub _ rfl) X
end Go.Proofs.YtffdckhgkhhbjaaGreatDoor.M
namespace Go.Proofs.YtffdckhgkhhbjaaGreatDoor.commitPlays
open Go Go.RowKit Go.ChangeShapes Go.WideShapes Go.ChangeAt Go.Proofs.YtffdckhgkhhbjaaGreatDoor.E Go.Proofs.YtffdckhgkhhbjaaGreatDoor.M
set_option linter.unusedVariables false
theorem own : ownKnob Tryz.prog.godebug = none := by kernel_rfl
theorem laidOut : laidOutB Tryz.prog = true := by kernel_rfl
theorem gN0 : Tryz.prog.globalNamed "headrace/page.table" = some 0 := by kernel_rfl
theorem gT0 : (Tryz.prog.globals[0]?).map (·.type) = some 138 := by kernel_rfl
theorem gN2 : Tryz.prog.globalNamed "strconv.ErrSyntax" = some 2 := by kernel_rfl
theorem gT2 : (Tryz.prog.globals[2]?).map (·.type) = some 99 := by kernel_rfl
theorem gN3 : Tryz.prog.globalNamed "strconv.ErrRange" = some 3 := by kernel_rfl
theorem gT3 : (Tryz.prog.globals[3]?).map (·.type) = some 99 := by kernel_rfl
theorem door_met (os : Os) (args : Array Value) : laidMetH Tryz.prog Rows.commitPlaysRow.laid ((World.doorLaid Tryz.prog 400 os).forCall (fun _ _ => 0) ⟨#[], args, []⟩).memory :=
  laidMetH_of_parts3 (fuel := 8) (laidMet_of_run' 8 (by kernel_rfl) (by kernel_rfl)) (by kernel_rfl) (by kernel_rfl)
theorem of_laid0 {W : World} (h : laidMetH Tryz.prog Rows.commitPlaysRow.laid W) : Imm (HeapZ W) W (kI .u32) (some ⟨0, 0, none⟩) 16 16 M.gl_page_table := by
  rw [MakeChecks.laidMetH_plain _ _ _ (by kernel_rfl)] at h
  replace h := h.filter (fun x => x.1 == "headrace/page.table")
  exact tab_imm gN0 gT0 Tryz.underlying138 Tryz.underlying47 ce47 rfl (by decide) h
theorem of_laid1 {W : World} (h : W.ShapedOpen Tryz.prog) : Gc (HeapZ W) W 1 isI64 := gc_i64 h (of_decide_eq_true (by kernel_rfl)) (zero := #[.int .i64 0]) (t := 3) (by kernel_rfl) rfl (by kernel_rfl) (by kernel_rfl) Tryz.underlying3
theorem of_laid2 {W : World} (h : laidMetH Tryz.prog Rows.commitPlaysRow.laid W) : Gc (HeapZ W) W 2 isEr := by
  rw [MakeChecks.laidMetH_plain _ _ _ (by kernel_rfl)] at h
  exact gc_er (d := _) (nm := _) h (by simp [Rows.commitPlaysRow, Rows.laid_strconv_ErrSyntax]; exact ⟨rfl, rfl⟩) gN2 gT2 Tryz.underlying99
theorem of_laid3 {W : World} (h : laidMetH Tryz.prog Rows.commitPlaysRow.laid W) : Gc (HeapZ W) W 3 isEr := by
  rw [MakeChecks.laidMetH_plain _ _ _ (by kernel_rfl)] at h
  exact gc_er (d := _) (nm := _) h (by simp [Rows.commitPlaysRow, Rows.laid_strconv_ErrRange]; exact ⟨rfl, rfl⟩) gN3 gT3 Tryz.underlying99
def Pure : Prop := ∀ (a0 : (List M.S36)), (gL 88 M.g36) a0 → M.law18_CommitPlays a0 = some true
set_option maxRecDepth 100000 in
theorem lifted (hP : Pure) (os : Os) (started : os.Started) (H : Type) (enc : TypeId × Value → H) :
    ReturnsInHanded {} Tryz.checked os 3 .any (fun w args => (Rows.commitPlaysSpec.pre enc Tryz.prog Tryz.f3 [] false w args ∧ laidMetH Tryz.prog Rows.commitPlaysRow.laid w) ∧ sizedMet enc Tryz.prog Tryz.f3 (OpenSpec.ofChange Rows.commitPlaysSpec) false w args)
      (Rows.commitPlaysSpec.post enc Tryz.prog Tryz.f3 false true false false) := by
  refine handed_shaped (C := Tryz.checked) (X := fun w _ => laidMetH Tryz.prog Rows.commitPlaysRow.laid w) (fun _ _ _ hh h => h.of_heap hh) own started (by kernel_rfl) Tryz.func3
    (ChangeSpec.witness_shaped (enc := enc) (C := Tryz.checked) (os := os) (X := fun w _ => laidMetH Tryz.prog Rows.commitPlaysRow.laid w) false (World.doorLaid Tryz.prog 400 os) #[.slice none 0 0] 8 rfl (World.shaped_of_RefB (by kernel_rfl) (by kernel_rfl)) (by kernel_rfl) (by kernel_rfl) (by kernel_rfl) (door_met os _)) ?_
  intro W base args ds gs before hval0 hW hsz0 hL hsh
  have hsz : (DataW.weightsEach Tryz.prog (Tryz.f3.params.toList ++ Rows.commitPlaysSpec.plain.varTypes Tryz.prog) (ds ++ gs)).all (· ≤ reachBytes) = true := hsz0
  have hval : ∀ (j : Nat) t v, Tryz.f3.params[j]? = some t → args[j]? = some v → Value.okWide Tryz.prog W .any base t v := hval0
  have hW' := hW
  obtain ⟨p, q, hA0, hV, rfl, hfz, hnd⟩ := hW
  have hA : DataW.TrodAll enc Tryz.prog W 0 (fun _ => true) true Tryz.f3.params.toList args.toList ds p := hA0
  rw [Tryz.params3] at hA hval hsz
  obtain ⟨v0, vs0, d0, ds0, p0, q0, hargs, rfl, rfl, h0, r0⟩ := trodAll_cons hA
  obtain ⟨rfl, rfl, rfl⟩ := trodAll_nil r0
  obtain rfl : args = #[v0] := by cases args; simp_all
  obtain ⟨rfl, rfl⟩ := trodVars_none hV
  have k0 := h0
  have lt0 : ∀ x ∈ p0, x.block < W.heap.size := by obtain ⟨m, hm⟩ := k0; exact DataW.trod_lt m _ _ _ hm
  obtain ⟨x0, hx0, g0⟩ := Opens.arg (opSl Tryz.underlying22 ce36 (Nat.succ_pos _) by36 op36) h0 (Wt.of hsz (j := 0) rfl rfl)
  obtain ⟨A0, n0, c0, rfl⟩ := okWide_slice Tryz.underlying22 (hval 0 22 v0 rfl rfl)
  obtain ⟨A0', n0', c0', he0, i0⟩ := hx0
  cases (show [Value.slice A0 n0 c0] = [Value.slice A0' n0' c0'] from he0)
  clear hA0 hval0 hsz0 hsz
  refine Calls.mono (M.F_law18_CommitPlays (Z := HeapZ W) (wz := W) x0 A0 n0 c0 (hP x0 g0) i0 (of_laid0 hL) (of_laid1 hsh) (of_laid2 hL) (of_laid3 hL) (L := []) (SH.start W)) ?_
  rintro e W' ⟨v, rfl, Z', wz', rfl, hs, hS⟩
  have bel := SH.below hS hs
  exact ⟨_, rfl, _, _, _, [], _, [], hW', trodAll_mk1 (shut_bool Tryz.underlying4 _), (trodAll_cons_mk (Below.trod laidOut (by kernel_rfl) (of_decide_eq_true (by kernel_rfl)) k0 bel lt0) trodAll_mk0), rfl, bel.frame _, fun h => by cases h⟩
theorem over (hP : Pure) : Rows.commitPlaysRow.holds Tryz.pinned (OpenSpec.ofChange Rows.commitPlaysSpec) :=
  OpenClaim.holds_of_wide 3 Tryz.f3 rfl rfl rfl rfl rfl rfl rfl ⟨rfl, rfl, rfl, rfl, rfl⟩ rfl rfl rfl rfl rfl (by kernel_rfl) Tryz.func3 (by kernel_rfl)
    (of_decide_eq_true (by kernel_rfl)) (by unfold Func.isWrapper; first | (rw [if_pos (by decide +kernel)]; kernel_rfl) | (rw [if_neg (by decide +kernel)]; exact ⟨rfl, rfl⟩))
    (fun os started H enc _ => lifted hP os started H enc)
def hrn : Bool × String := Rows.commitPlaysCard.stood.harness
theorem card (hP : Pure) : Rows.CommitPlaysCardSaid :=
  Claim7.holds_tied_plain_at .later [] [.data, .data, .data, .data, .sentinel, .sentinel] true hrn true
    (over hP) (fun _ h => by cases h) (by kernel_rfl) (fun _ h => by cases h) commitPlays_row_tie rfl ⟨rfl, rfl⟩ (by kernel_rfl) rfl
    (fun f fn hf hfn => by
      obtain rfl : f = 3 := Option.some.inj ((show Tryz.prog.funcNamed "headrace/headracelaw18.CommitPlays" = some 3 by kernel_rfl).symm.trans hf) |>.symm
      obtain rfl : fn = Tryz.f3 := (Option.some.inj (Tryz.func3.symm.trans hfn)).symm
      exact ⟨by kernel_rfl, fun j t ht => by
        rw [Tryz.params3] at ht
        have hm : t ∈ [22] := by simpa using Array.mem_of_getElem? ht
        have hall : ([22].all fun u => !Tryz.prog.wantsStandIn u) = true := by kernel_rfl
        exact (show Tryz.prog.wantsStandIn t = false by simpa using List.all_eq_true.1 hall t hm)⟩)
    (by kernel_rfl)
end Go.Proofs.YtffdckhgkhhbjaaGreatDoor.commitPlays
namespace Go.Proofs.YtffdckhgkhhbjaaGreatDoor.P
open Go Go.RowKit Go.Proofs.YtffdckhgkhhbjaaGreatDoor.E Go.Proofs.YtffdckhgkhhbjaaGreatDoor.M
set_option linter.unusedVariables false
set_option linter.unusedSectionVars false
theorem at_nat {α : Type} (xs : List α) (n : Nat) : at_ xs (n : Int) = xs[n]? := by simp [at_]
theorem at_int {α : Type} {xs : List α} {i : Int} {n : Nat} {x : α} (hi : i = n) (h : xs[n]? = some x) : at_ xs i = some x := by subst hi; rw [at_nat, h]
theorem cut_nat {α : Type} {xs : List α} {l u : Nat} (h : l ≤ u) (hu : u ≤ xs.length) : cut_ xs (l : Int) (u : Int) = some ((xs.take u).drop l) := by
 unfold cut_; rw [if_pos (by omega)]; simp
theorem chk_pos {α : Type} {p : Prop} [Decidable p] {x : Option α} (h : p) : chk p x = x := if_pos h
theorem w64 {n : Int} (h : -9223372036854775808 ≤ n) (h' : n ≤ 9223372036854775807) : IntKind.i64.wrap n = n := IntWalk.i64_in n ⟨h, h'⟩
theorem u64w {n : Int} (h : 0 ≤ n) (h' : n < 18446744073709551616) : IntKind.u64.wrap n = n := IntWalk.u64_in n ⟨h, by omega⟩
theorem u8w {n : Int} (h : 0 ≤ n) (h' : n < 256) : IntKind.u8.wrap n = n := IntWalk.u8_in n ⟨h, by omega⟩
theorem lt_ {α β : Type} (e : α) (f : α → Option β) : ltt e f = f e := rfl
theorem loop_at {σ τ : Type} {b : σ → Option (σ ⊕ τ)} (f : Nat → σ) {t : τ} : ∀ (n : Nat) (i : Nat), (∀ k, i ≤ k → k < i + n → b (f k) = some (.inl (f (k + 1)))) → b (f (i + n)) = some (.inr t) → loop b (f i) = some t
 | 0, i, _, he => loop_end he
 | n + 1, i, hs, he => (loop_nxt (hs i (Nat.le_refl _) (by omega))).trans (loop_at f n (i + 1) (fun k h1 h2 => hs k (by omega) (by omega)) (by rw [show i + 1 + n = i + (n + 1) by omega]; exact he))
theorem loop_to {σ τ : Type} {b : σ → Option (σ ⊕ τ)} (f : Nat → σ) {t : τ} (n : Nat) (hs : ∀ k, k < n → b (f k) = some (.inl (f (k + 1)))) (he : b (f n) = some (.inr t)) : loop b (f 0) = some t :=
 loop_at f n 0 (fun k _ h => hs k (by omega)) (by simpa using he)
theorem ofInt_nat (n a : Nat) : BitVec.ofInt n (a : Int) = BitVec.ofNat n a := BitVec.ofInt_natCast n a
theorem u64_nat (a : Nat) : IntKind.u64.wrap (a : Int) = ((a % 18446744073709551616 : Nat) : Int) := by
 rw [IntKind.wrap_u64]; omega
theorem u8_nat (a : Nat) : IntKind.u8.wrap (a : Int) = ((a % 256 : Nat) : Int) := by rw [IntKind.wrap_u8]; omega
theorem iand_u64 {a b : Nat} (ha : a < 18446744073709551616) (hb : b < 18446744073709551616) : iand .u64 (a : Int) (b : Int) = ((a &&& b : Nat) : Int) := by
 unfold iand
 rw [ofInt_nat, ofInt_nat, u64_nat]
 have h : a &&& b < 18446744073709551616 := Nat.lt_of_le_of_lt Nat.and_le_left ha
 simp only [BitVec.toNat_and, BitVec.toNat_ofNat, show IntKind.u64.bits = 64 from rfl]
 rw [Nat.mod_eq_of_lt (show a < 2 ^ 64 by omega), Nat.mod_eq_of_lt (show b < 2 ^ 64 by omega), Nat.mod_eq_of_lt h]
theorem iand_u8 {a b : Nat} (ha : a < 256) (hb : b < 256) : iand .u8 (a : Int) (b : Int) = ((a &&& b : Nat) : Int) := by
 unfold iand
 rw [ofInt_nat, ofInt_nat, u8_nat]
 have h : a &&& b < 256 := Nat.lt_of_le_of_lt Nat.and_le_left ha
 simp only [BitVec.toNat_and, BitVec.toNat_ofNat, show IntKind.u8.bits = 8 from rfl]
 rw [Nat.mod_eq_of_lt (show a < 2 ^ 8 by omega), Nat.mod_eq_of_lt (show b < 2 ^ 8 by omega), Nat.mod_eq_of_lt h]
theorem ior_u64 {a b : Nat} (ha : a < 18446744073709551616) (hb : b < 18446744073709551616) : ior .u64 (a : Int) (b : Int) = ((a ||| b : Nat) : Int) := by
 unfold ior
 rw [ofInt_nat, ofInt_nat, u64_nat]
 have h : a ||| b < 2 ^ 64 := Nat.or_lt_two_pow (show a < 2 ^ 64 by omega) (show b < 2 ^ 64 by omega)
 simp only [BitVec.toNat_or, BitVec.toNat_ofNat, show IntKind.u64.bits = 64 from rfl]
 rw [Nat.mod_eq_of_lt (show a < 2 ^ 64 by omega), Nat.mod_eq_of_lt (show b < 2 ^ 64 by omega), Nat.mod_eq_of_lt (show a ||| b < 18446744073709551616 from h)]
theorem ior_u8 {a b : Nat} (ha : a < 256) (hb : b < 256) : ior .u8 (a : Int) (b : Int) = ((a ||| b : Nat) : Int) := by
 unfold ior
 rw [ofInt_nat, ofInt_nat, u8_nat]
 have h : a ||| b < 2 ^ 8 := Nat.or_lt_two_pow (show a < 2 ^ 8 by omega) (show b < 2 ^ 8 by omega)
 simp only [BitVec.toNat_or, BitVec.toNat_ofNat, show IntKind.u8.bits = 8 from rfl]
 rw [Nat.mod_eq_of_lt (show a < 2 ^ 8 by omega), Nat.mod_eq_of_lt (show b < 2 ^ 8 by omega), Nat.mod_eq_of_lt (show a ||| b < 256 from h)]
theorem ixor_u64 {a b : Nat} (ha : a < 18446744073709551616) (hb : b < 18446744073709551616) : ixor .u64 (a : Int) (b : Int) = ((a ^^^ b : Nat) : Int) := by
 unfold ixor
 rw [ofInt_nat, ofInt_nat, u64_nat]
 have h : a ^^^ b < 2 ^ 64 := Nat.xor_lt_two_pow (show a < 2 ^ 64 by omega) (show b < 2 ^ 64 by omega)
 simp only [BitVec.toNat_xor, BitVec.toNat_ofNat, show IntKind.u64.bits = 64 from rfl]
 rw [Nat.mod_eq_of_lt (show a < 2 ^ 64 by omega), Nat.mod_eq_of_lt (show b < 2 ^ 64 by omega), Nat.mod_eq_of_lt (show a ^^^ b < 18446744073709551616 from h)]
theorem two_pow (n : Nat) : (2 : Int) ^ n = ((2 ^ n : Nat) : Int) := (Int.natCast_pow 2 n).symm
theorem ishr_nat {k : IntKind} (a n : Nat) (h : n ≤ k.bits) : ishr k (a : Int) (n : Int) = ((a / 2 ^ n : Nat) : Int) := by
 unfold ishr
 rw [Int.toNat_natCast, Nat.min_eq_left h, two_pow, Int.fdiv_eq_ediv_of_nonneg _ (Int.natCast_nonneg _)]
 rfl
theorem ishl_u64 (a n : Nat) (h : n ≤ 64) : ishl .u64 (a : Int) (n : Int) = ((a * 2 ^ n % 18446744073709551616 : Nat) : Int) := by
 unfold ishl
 rw [Int.toNat_natCast, show min n IntKind.u64.bits = n from Nat.min_eq_left h, two_pow, ← Int.natCast_mul, u64_nat]
theorem or_top {a n : Nat} (h : a < 2 ^ n) (b : Nat) : a ||| (b * 2 ^ n) = a + b * 2 ^ n := by
 rw [Nat.or_comm, Nat.mul_comm, ← Nat.two_pow_add_eq_or_of_lt h, Nat.add_comm]
def uv (n : Nat) : List Int := if h : n < 128 then [(n : Int)] else ((n % 128 + 128 : Nat) : Int) :: uv (n / 128)
termination_by n
decreasing_by omega
theorem uv_small {n : Nat} (h : n < 128) : uv n = [(n : Int)] := by rw [uv, dif_pos h]
theorem uv_large {n : Nat} (h : ¬ n < 128) : uv n = ((n % 128 + 128 : Nat) : Int) :: uv (n / 128) := by rw [uv, dif_neg h]
theorem uv_length : ∀ (k n : Nat), n < 128 ^ (k + 1) → (uv n).length ≤ k + 1
 | 0, n, h => by rw [uv_small (by simpa using h)]; simp
 | k + 1, n, h => by
  by_cases hn : n < 128
  ·rw [uv_small hn]; simp
  ·rw [uv_large hn, List.length_cons]
   have := uv_length k (n / 128) (by rw [Nat.pow_succ] at h; exact Nat.div_lt_of_lt_mul (by rw [Nat.mul_comm]; exact h))
   omega
theorem uv_length64 {n : Nat} (h : n < 18446744073709551616) : (uv n).length ≤ 10 := uv_length 9 n (by omega)
set_option maxRecDepth 100000 in
theorem or_128 : ∀ m : Fin 256, (m.val ||| 128) = m.val % 128 + 128 := by decide
theorem Uint_app (n : Nat) : ∀ (a0 : List Int), n < 18446744073709551616 → a0.length + (uv n).length ≤ 140737488355328 → column_Uint a0 (n : Int) = some (a0 ++ uv n) := by
 induction n using Nat.strongRecOn with
 | _ n ih =>
  intro a0 h hl
  unfold column_Uint
  by_cases hn : n < 128
  ·rw [loop_end (t := (a0, (n : Int))) (by
    show column_Uint_l1 a0 (n : Int) = _
    unfold column_Uint_l1
    rw [if_neg (by simp only [decide_eq_true_eq]; omega)])]
   simp only [Option.bind_some]
   unfold column_Uint_x1_0 column_Uint_b1
   rw [uv_small hn] at hl ⊢
   rw [lt_, u8w (by omega) (by omega), chk_pos (by simpa using hl)]
  ·have hl' := hl
   rw [uv_large hn, List.length_cons] at hl'
   have e1 : IntKind.u8.wrap (n : Int) = ((n % 256 : Nat) : Int) := u8_nat n
   have e2 : ior .u8 ((n % 256 : Nat) : Int) 128 = ((n % 128 + 128 : Nat) : Int) := by
    have := ior_u8 (a := n % 256) (b := 128) (by omega) (by omega)
    rw [show ((128 : Nat) : Int) = 128 from rfl] at this
    rw [this, or_128 ⟨n % 256, by omega⟩]
    simp only
    omega
   have e3 : ishr .u64 (n : Int) 7 = ((n / 128 : Nat) : Int) := ishr_nat (k := .u64) n 7 (by decide)
   rw [loop_nxt (s' := (a0 ++ [((n % 128 + 128 : Nat) : Int)], ((n / 128 : Nat) : Int))) (by
    show column_Uint_l1 a0 (n : Int) = _
    unfold column_Uint_l1
    rw [if_pos (by simp only [decide_eq_true_eq]; omega), lt_, e1, lt_, e2, chk_pos (by simp; omega), lt_, e3])]
   have := ih (n / 128) (by omega) (a0 ++ [((n % 128 + 128 : Nat) : Int)]) (by omega) (by simp; omega)
   unfold column_Uint at this
   rw [this, uv_large hn]
   simp
def zz (i : Int) : Nat := if i < 0 then (-(i + 1)).toNat * 2 + 1 else i.toNat * 2
def uz (n : Nat) : Int := if n % 2 = 1 then -((n / 2 : Nat) : Int) - 1 else ((n / 2 : Nat) : Int)
theorem uz_zz (i : Int) : uz (zz i) = i := by unfold uz zz; split <;> split <;> omega
def i64 (i : Int) : Prop := -9223372036854775808 ≤ i ∧ i ≤ 9223372036854775807
theorem zz_lt {i : Int} (h : i64 i) : zz i < 18446744073709551616 := by
 unfold i64 at h
 unfold zz; split <;> omega
theorem xor_ones {a : Nat} (h : a < 18446744073709551616) : ixor .u64 (a : Int) 18446744073709551615 = ((18446744073709551615 - a : Nat) : Int) := by
 show IntKind.u64.wrap (((BitVec.ofInt 64 (a : Int) ^^^ BitVec.allOnes 64).toNat : Nat) : Int) = _
 rw [ofInt_nat, BitVec.xor_allOnes, u64_nat, BitVec.toNat_not, BitVec.toNat_ofNat, Nat.mod_eq_of_lt (show a < 2 ^ 64 by omega)]
 omega
theorem zz_eq {i : Int} (h : i64 i) : ixor .u64 (IntKind.u64.wrap (ishl .i64 i 1)) (IntKind.u64.wrap (ishr .i64 i 63)) = (zz i : Int) := by
 unfold i64 at h
 have e1 : ishl .i64 i 1 = IntKind.i64.wrap (i * 2) := rfl
 have e2 : ishr .i64 i 63 = if i < 0 then -1 else 0 := by
  unfold ishr
  rw [show (63 : Int).toNat = 63 from rfl, show min 63 IntKind.i64.bits = 63 from rfl, Int.fdiv_eq_ediv_of_nonneg _ (by decide)]
  split <;> omega
 rw [e1, e2]
 have e3 : IntKind.u64.wrap (IntKind.i64.wrap (i * 2)) = (i * 2) % 18446744073709551616 := by
  rw [IntKind.wrap_u64, IntWalk.i64_left]; unfold wrap64; omega
 rw [e3]
 unfold zz
 by_cases hi : i < 0
 ·rw [if_pos hi, if_pos hi, show IntKind.u64.wrap (-1) = 18446744073709551615 from rfl]
  obtain ⟨m, hm⟩ : ∃ m : Nat, (i * 2) % 18446744073709551616 = (m : Int) := ⟨((i * 2) % 18446744073709551616).toNat, by omega⟩
  rw [hm, xor_ones (by omega)]
  omega
 ·rw [if_neg hi, if_neg hi, show IntKind.u64.wrap 0 = ((0 : Nat) : Int) from rfl]
  obtain ⟨m, hm⟩ : ∃ m : Nat, (i * 2) % 18446744073709551616 = (m : Int) := ⟨((i * 2) % 18446744073709551616).toNat, by omega⟩
  rw [hm, ixor_u64 (by omega) (by omega), Nat.xor_zero]
  omega
theorem Int_app {i : Int} (h : i64 i) (a0 : List Int) (hl : a0.length + 10 ≤ 140737488355328) : column_Int a0 i = some (a0 ++ uv (zz i)) := by
 unfold column_Int
 have := uv_length64 (zz_lt h)
 simp only [lt_, zz_eq h, Uint_app _ a0 (zz_lt h) (by omega), Option.bind_some]
theorem Text_app (s : List UInt8) (a0 : List Int) (hs : s.length ≤ 9223372036854775807) (hl : a0.length + s.length + 10 ≤ 140737488355328) : column_Text a0 s = some (a0 ++ uv s.length ++ stb s) := by
 unfold column_Text
 have := uv_length64 (n := s.length) (by omega)
 rw [lt_, u64w (by omega) (by omega), Uint_app _ a0 (by omega) (by omega)]
 simp only [Option.bind_some]
 rw [chk_pos (by simp; omega)]
def Bs (xs : List Int) : Prop := ∀ b ∈ xs, 0 ≤ b ∧ b < 256
theorem Bs.nil : Bs [] := fun _ h => by cases h
theorem Bs.cons {b : Int} {xs : List Int} (h : Bs (b :: xs)) : (0 ≤ b ∧ b < 256) ∧ Bs xs := ⟨h b List.mem_cons_self, fun c hc => h c (List.mem_cons_of_mem _ hc)⟩
theorem Bs.mk {b : Int} {xs : List Int} (hb : 0 ≤ b ∧ b < 256) (h : Bs xs) : Bs (b :: xs) := fun c hc => by
 rcases List.mem_cons.1 hc with rfl | hc
 ·exact hb
 ·exact h c hc
theorem Bs.app {xs ys : List Int} (h : Bs xs) (h' : Bs ys) : Bs (xs ++ ys) := fun c hc => (List.mem_append.1 hc).elim (h c) (h' c)
theorem Bs.l {xs ys : List Int} (h : Bs (xs ++ ys)) : Bs xs := fun c hc => h c (List.mem_append.2 (.inl hc))
theorem Bs.r {xs ys : List Int} (h : Bs (xs ++ ys)) : Bs ys := fun c hc => h c (List.mem_append.2 (.inr hc))
theorem Bs.drop {xs : List Int} (h : Bs xs) (n : Nat) : Bs (xs.drop n) := fun c hc => h c (List.mem_of_mem_drop hc)
theorem Bs.take {xs : List Int} (h : Bs xs) (n : Nat) : Bs (xs.take n) := fun c hc => h c (List.mem_of_mem_take hc)
theorem Bs.uv (n : Nat) : Bs (uv n) := by
 induction n using Nat.strongRecOn with
 | _ n ih =>
  by_cases hn : n < 128
  ·rw [uv_small hn]; exact Bs.mk (by omega) Bs.nil
  ·rw [uv_large hn]; exact Bs.mk (by omega) (ih _ (by omega))
theorem Bs.stb (s : List UInt8) : Bs (stb s) := by
 intro c hc
 unfold E.stb at hc
 obtain ⟨b, _, rfl⟩ := List.mem_map.1 hc
 have := b.toNat_lt
 omega
def pB : List Int → Option (Int × List Int)
 | [] => none
 | b :: r => some (b, r)
def pV (i n : Nat) : List Int → Option (Nat × List Int)
 | [] => none
 | b :: r => if i < 9 ∨ (i = 9 ∧ b < 2) then
   (if b < 128 then (if i = 0 ∨ 0 < b then some (n + b.toNat % 128 * 2 ^ (7 * i), r) else none) else pV (i + 1) (n + b.toNat % 128 * 2 ^ (7 * i)) r)
  else none
def pU (most : Int) (xs : List Int) : Option (Int × List Int) := match pV 0 0 xs with
 | some (n, r) => if (n : Int) ≤ most then some ((n : Int), r) else none
 | none => none
def pI (xs : List Int) : Option (Int × List Int) := match pU 18446744073709551615 xs with
 | some (n, r) => some (uz n.toNat, r)
 | none => none
def pT (most : Int) (xs : List Int) : Option (List UInt8 × List Int) := match pU (IntKind.u64.wrap most) xs with
 | some (n, r) => if n ≤ (r.length : Int) then some (bts (r.take n.toNat), r.drop n.toNat) else none
 | none => none
def IsR {ρ : Type} (o : Option ((ρ × S121) ⊕ S121)) (p : Option (ρ × List Int)) : Prop :=
 match p with
 | some (a, r) => o = some (.inl (a, ⟨r⟩))
 | none => ∃ s, o = some (.inr s)
theorem IsR.cases {ρ : Type} {o : Option ((ρ × S121) ⊕ S121)} {p : Option (ρ × List Int)} (h : IsR o p) : (∃ a r, p = some (a, r) ∧ o = some (.inl (a, ⟨r⟩))) ∨ (p = none ∧ ∃ s, o = some (.inr s)) := by
 unfold IsR at h
 split at h
 ·exact .inl ⟨_, _, rfl, h⟩
 ·exact .inr ⟨rfl, h⟩
theorem s_inl {α β γ : Type} (a : α) (f : α → Option γ) (g : β → Option γ) : sum_ (.inl a) f g = f a := rfl
theorem Check_t (s : S121) : column_Reader_Check s true = some (.inl s) := rfl
theorem Check_f (s : S121) : column_Reader_Check s false = some (.inr s) := rfl
theorem Byte_is (xs : List Int) : IsR (column_Reader_Byte ⟨xs⟩) (pB xs) := by
 unfold column_Reader_Byte
 cases xs with
 | nil => exact ⟨_, rfl⟩
 | cons b r =>
  rw [show decide (0 < (((⟨b :: r⟩ : S121).f0.length : Nat) : Int)) = true by simp, Check_t]
  simp only [Option.bind_some, s_inl]
  have h1 : at_ (b :: r) 0 = some b := rfl
  have h2 : cut_ (b :: r) 1 ((b :: r).length : Int) = some r := by
   have := cut_nat (xs := b :: r) (l := 1) (u := (b :: r).length) (by simp) (Nat.le_refl _)
   rw [show ((1 : Nat) : Int) = 1 from rfl, List.take_length] at this
   exact this
  rw [h1]
  simp only [Option.bind_some]
  rw [h2]
  rfl
theorem and_127 (a : Nat) : a &&& 127 = a % 128 := Nat.and_two_pow_sub_one_eq_mod a 7
theorem pV_lt : ∀ (xs : List Int) (i n m : Nat) (r : List Int), n < 2 ^ (7 * i) → n < 18446744073709551616 → pV i n xs = some (m, r) → m < 18446744073709551616 ∧ ∃ p, xs = p ++ r ∧ 0 < p.length
 | [], i, n, m, r, _, _, h => by cases h
 | b :: xs, i, n, m, r, h1, h2, h => by
  unfold pV at h
  split at h
  ·rename_i hc
   have hlt : n + b.toNat % 128 * 2 ^ (7 * i) < 18446744073709551616 ∧ n + b.toNat % 128 * 2 ^ (7 * i) < 2 ^ (7 * (i + 1)) := by
    have hp : 2 ^ (7 * (i + 1)) = 128 * 2 ^ (7 * i) := by rw [show 7 * (i + 1) = 7 + 7 * i by omega, Nat.pow_add]
    have hm : b.toNat % 128 * 2 ^ (7 * i) ≤ 127 * 2 ^ (7 * i) := Nat.mul_le_mul_right _ (by omega)
    refine ⟨?_, by rw [hp]; omega⟩
    rcases hc with hc | ⟨hc, hb⟩
    ·have : 2 ^ (7 * i) ≤ 2 ^ 56 := Nat.pow_le_pow_right (by decide) (by omega)
     omega
    ·subst hc
     have : b.toNat % 128 * 2 ^ (7 * 9) ≤ 1 * 2 ^ (7 * 9) := Nat.mul_le_mul_right _ (by omega)
     omega
   split at h
   ·split at h
    ·cases h
     exact ⟨hlt.1, [b], rfl, by simp⟩
    ·cases h
   ·obtain ⟨q1, p, rfl, q3⟩ := pV_lt xs (i + 1) _ m r hlt.2 hlt.1 h
    exact ⟨q1, b :: p, rfl, by simp⟩
  ·cases h
theorem Uloop (most : Int) : ∀ (xs : List Int) (i n : Nat), Bs xs → i ≤ 10 → n < 2 ^ (7 * i) → n < 18446744073709551616 →
  IsR (loop (fun s : List Int × Int × Int => column_Reader_Uint_l1 most s.1 s.2.1 s.2.2) (xs, (n : Int), (i : Int))) (match pV i n xs with | some (m, r) => if (m : Int) ≤ most then some ((m : Int), r) else none | none => none)
 | [], i, n, hB, hi, h1, h2 => ⟨⟨[]⟩, loop_end rfl⟩
 | b :: xs, i, n, hB, hi, h1, h2 => by
  obtain ⟨hb, hB'⟩ := hB.cons
  generalize hpv : pV i n (b :: xs) = pv
  have hby : column_Reader_Byte ⟨b :: xs⟩ = some (.inl (b, ⟨xs⟩)) := Byte_is (b :: xs)
  obtain ⟨c, rfl⟩ : ∃ c : Nat, b = (c : Int) := ⟨b.toNat, by omega⟩
  have hcase : (c : Int) < 128 ∨ 128 ≤ (c : Int) := by omega
  by_cases hc : i < 9 ∨ (i = 9 ∧ (c : Int) < 2)
  · -- the byte is taken
   have hp : 2 ^ (7 * (i + 1)) = 128 * 2 ^ (7 * i) := by rw [show 7 * (i + 1) = 7 + 7 * i by omega, Nat.pow_add]
   have hm : c % 128 * 2 ^ (7 * i) ≤ 127 * 2 ^ (7 * i) := Nat.mul_le_mul_right _ (by omega)
   have hlt : c % 128 * 2 ^ (7 * i) < 18446744073709551616 ∧ n + c % 128 * 2 ^ (7 * i) < 18446744073709551616 := by
    rcases hc with hc | ⟨hc, hb⟩
    ·have : 2 ^ (7 * i) ≤ 2 ^ 56 := Nat.pow_le_pow_right (by decide) (by omega)
     omega
    ·subst hc
     have : c % 128 * 2 ^ (7 * 9) ≤ 1 * 2 ^ (7 * 9) := Nat.mul_le_mul_right _ (by omega)
     omega
   have hlt2 : n + c % 128 * 2 ^ (7 * i) < 2 ^ (7 * (i + 1)) := by rw [hp]; omega
   obtain ⟨m, hm'⟩ : ∃ m, m = n + c % 128 * 2 ^ (7 * i) := ⟨_, rfl⟩
   have e1 : iand .u8 (c : Int) 127 = ((c % 128 : Nat) : Int) := by
    have := iand_u8 (a := c) (b := 127) (by omega) (by omega)
    rw [show ((127 : Nat) : Int) = 127 from rfl] at this
    rw [this, and_127]
   have e2 : IntKind.i64.wrap (7 * (i : Int)) = ((7 * i : Nat) : Int) := by rw [w64 (by omega) (by omega)]; omega
   have e3 : ishl .u64 ((c % 128 : Nat) : Int) ((7 * i : Nat) : Int) = ((c % 128 * 2 ^ (7 * i) : Nat) : Int) := by
    rw [ishl_u64 _ _ (by omega), Nat.mod_eq_of_lt hlt.1]
   have e4 : ior .u64 (n : Int) ((c % 128 * 2 ^ (7 * i) : Nat) : Int) = (m : Int) := by rw [ior_u64 h2 hlt.1, or_top h1, hm']
   have hl1 : column_Reader_Uint_l1 most ((c : Int) :: xs) (n : Int) (i : Int) = column_Reader_Uint_j1 most (n : Int) (i : Int) ((c : Int), ⟨xs⟩) xs := by
    unfold column_Reader_Uint_l1
    rw [hby]
    simp only [Option.bind_some, s_inl]
    rcases hc with hc | ⟨hc, hc2⟩
    ·rw [if_pos (by simp only [decide_eq_true_eq]; omega), Check_t]; rfl
    ·rw [if_neg (by simp only [decide_eq_true_eq]; omega), if_pos (by subst hc; rfl), show decide ((c : Int) < 2) = true by simpa using hc2, Check_t]; rfl
   have hj : column_Reader_Uint_j1 most (n : Int) (i : Int) ((c : Int), ⟨xs⟩) xs = if (c : Int) < 128 then (if (m : Int) ≤ most ∧ (i = 0 ∨ 0 < (c : Int)) then some (.inr (.inl ((m : Int), ⟨xs⟩))) else some (.inr (.inr ⟨xs⟩))) else some (.inl (xs, (m : Int), ((i + 1 : Nat) : Int))) := by
    unfold column_Reader_Uint_j1
    simp only [lt_]
    rw [e1, u64w (by omega) (by omega), e2, chk_pos (by omega), e3, e4]
    by_cases hc1 : (c : Int) < 128
    ·rw [if_pos (by simpa using hc1), if_pos hc1]
     by_cases hmo : (m : Int) ≤ most
     ·rw [if_pos (by simpa using hmo)]
      by_cases hi0 : i = 0
      ·subst hi0
       rw [if_pos (by rfl), Check_t, if_pos ⟨hmo, .inl rfl⟩]
       rfl
      ·rw [if_neg (by simpa using hi0)]
       by_cases hc0 : 0 < (c : Int)
       ·rw [show decide (0 < (c : Int)) = true by simpa using hc0, Check_t, if_pos ⟨hmo, .inr hc0⟩]; rfl
       ·rw [show decide (0 < (c : Int)) = false by simpa using hc0, Check_f, if_neg (by rintro ⟨_, q | q⟩; exact hi0 q; exact hc0 q)]; rfl
     ·rw [if_neg (by simpa using hmo), Check_f, if_neg (fun q => hmo q.1)]; rfl
    ·rw [if_neg (by simpa using hc1), if_neg hc1, w64 (by omega) (by omega)]; rfl
   rw [pV, if_pos hc, Int.toNat_natCast, ← hm'] at hpv
   rcases hcase with hc1 | hc1
   ·rw [if_pos hc1] at hj hpv
    by_cases h0 : i = 0 ∨ 0 < (c : Int)
    ·rw [if_pos h0] at hpv
     subst hpv
     simp only
     by_cases hmo : (m : Int) ≤ most
     ·rw [if_pos ⟨hmo, h0⟩] at hj
      rw [if_pos hmo]
      exact loop_end (hl1.trans hj)
     ·rw [if_neg (fun q => hmo q.1)] at hj
      rw [if_neg hmo]
      exact ⟨_, loop_end (hl1.trans hj)⟩
    ·rw [if_neg h0] at hpv
     subst hpv
     rw [if_neg (fun q => h0 q.2)] at hj
     exact ⟨_, loop_end (hl1.trans hj)⟩
   ·rw [if_neg (Int.not_lt.2 hc1)] at hj hpv
    rw [loop_nxt (hl1.trans hj)]
    subst hpv
    exact Uloop most xs (i + 1) m hB' (by omega) (by rw [hm']; exact hlt2) (by rw [hm']; exact hlt.2)
  ·rw [pV, if_neg hc] at hpv
   subst hpv
   refine ⟨_, loop_end (t := Sum.inr ⟨xs⟩) ?_⟩
   show column_Reader_Uint_l1 most ((c : Int) :: xs) (n : Int) (i : Int) = _
   unfold column_Reader_Uint_l1
   rw [hby]
   simp only [Option.bind_some, s_inl]
   rw [if_neg (by simp only [decide_eq_true_eq]; omega)]
   by_cases hi9 : i = 9
   ·rw [if_pos (by subst hi9; rfl), show decide ((c : Int) < 2) = false by simp; omega, Check_f]; rfl
   ·rw [if_neg (by simp; omega), Check_f]; rfl
theorem Uint_is (most : Int) {xs : List Int} (hB : Bs xs) : IsR (column_Reader_Uint ⟨xs⟩ most) (pU most xs) := by
 unfold column_Reader_Uint pU
 have := Uloop most xs 0 0 hB (by omega) (by simp) (by omega)
 simp only [Int.natCast_zero] at this
 rcases this.cases with ⟨a, r, h1, h2⟩ | ⟨h1, s, h2⟩
 ·rw [h1]; show _ = _; rw [h2]; rfl
 ·rw [h1]; exact ⟨s, by rw [h2]; rfl⟩
theorem pU_some {most : Int} {xs r : List Int} {n : Int} (h : pU most xs = some (n, r)) : (0 ≤ n ∧ n < 18446744073709551616 ∧ n ≤ most) ∧ ∃ p, xs = p ++ r ∧ 0 < p.length := by
 unfold pU at h
 split at h
 ·rename_i m r' he
  split at h
  ·cases h
   obtain ⟨h1, h2⟩ := pV_lt _ _ _ _ _ (by simp) (by omega) he
   exact ⟨⟨by omega, by omega, by assumption⟩, h2⟩
  ·cases h
 ·cases h
theorem and_1 (a : Nat) : a &&& 1 = a % 2 := Nat.and_two_pow_sub_one_eq_mod a 1
theorem xor_m1 {a : Nat} (h : a < 9223372036854775808) : ixor .i64 (a : Int) (-1) = -(a : Int) - 1 := by
 show IntKind.i64.wrap (((BitVec.ofInt 64 (a : Int) ^^^ BitVec.allOnes 64).toNat : Nat) : Int) = _
 rw [ofInt_nat, BitVec.xor_allOnes, BitVec.toNat_not, BitVec.toNat_ofNat, Nat.mod_eq_of_lt (show a < 2 ^ 64 by omega), IntWalk.i64_left]
 unfold wrap64
 omega
theorem xor_0 {a : Nat} (h : a < 9223372036854775808) : ixor .i64 (a : Int) 0 = (a : Int) := by
 show IntKind.i64.wrap (((BitVec.ofInt 64 (a : Int) ^^^ 0#64).toNat : Nat) : Int) = _
 rw [ofInt_nat, BitVec.xor_zero, BitVec.toNat_ofNat, Nat.mod_eq_of_lt (show a < 2 ^ 64 by omega), w64 (by omega) (by omega)]
theorem uz_eq {n : Nat} (h : n < 18446744073709551616) : ixor .i64 (IntKind.i64.wrap (ishr .u64 (n : Int) 1)) (IntKind.i64.wrap (0 - IntKind.i64.wrap (iand .u64 (n : Int) 1))) = uz n := by
 have e1 : ishr .u64 (n : Int) 1 = ((n / 2 : Nat) : Int) := ishr_nat (k := .u64) n 1 (by decide)
 have e2 : iand .u64 (n : Int) 1 = ((n % 2 : Nat) : Int) := by
  have := iand_u64 (a := n) (b := 1) h (by omega)
  rw [show ((1 : Nat) : Int) = 1 from rfl] at this
  rw [this, and_1]
 rw [e1, e2, w64 (n := ((n / 2 : Nat) : Int)) (by omega) (by omega), w64 (n := ((n % 2 : Nat) : Int)) (by omega) (by omega), w64 (by omega) (by omega)]
 unfold uz
 by_cases ho : n % 2 = 1
 ·rw [if_pos ho, ho, show (0 : Int) - ((1 : Nat) : Int) = -1 from rfl, xor_m1 (by omega)]
 ·rw [if_neg ho, show n % 2 = 0 by omega, show (0 : Int) - ((0 : Nat) : Int) = 0 from rfl, xor_0 (by omega)]
theorem Int_is {xs : List Int} (hB : Bs xs) : IsR (column_Reader_Int ⟨xs⟩) (pI xs) := by
 unfold column_Reader_Int pI
 rcases (Uint_is 18446744073709551615 hB).cases with ⟨a, r, h1, h2⟩ | ⟨h1, s, h2⟩
 ·rw [h1, h2]
  obtain ⟨⟨q1, q2, _⟩, _⟩ := pU_some h1
  simp only [Option.bind_some, s_inl, lt_]
  have := uz_eq (n := a.toNat) (by omega)
  rw [show ((a.toNat : Nat) : Int) = a by omega] at this
  show _ = _
  rw [this]
 ·rw [h1, h2]
  exact ⟨s, rfl⟩
theorem Text_is (most : Int) {xs : List Int} (hB : Bs xs) (hl : xs.length < 9223372036854775808) : IsR (column_Reader_Text ⟨xs⟩ most) (pT most xs) := by
 unfold column_Reader_Text pT
 rw [lt_]
 rcases (Uint_is (IntKind.u64.wrap most) hB).cases with ⟨a, r, h1, h2⟩ | ⟨h1, s, h2⟩
 ·rw [h1, h2]
  obtain ⟨⟨q1, q2, _⟩, p, hp, _⟩ := pU_some h1
  have hr : r.length ≤ xs.length := by rw [hp]; simp
  simp only [Option.bind_some, s_inl, lt_]
  rw [u64w (by omega) (by omega)]
  obtain ⟨n, rfl⟩ : ∃ n : Nat, a = (n : Int) := ⟨a.toNat, by omega⟩
  by_cases hn : (n : Int) ≤ (r.length : Int)
  ·rw [show decide ((n : Int) ≤ (r.length : Int)) = true by simpa using hn, Check_t, if_pos hn]
   simp only [Option.bind_some, s_inl]
   have c1 := cut_nat (xs := r) (l := 0) (u := n) (by omega) (by omega)
   have c2 := cut_nat (xs := r) (l := n) (u := r.length) (by omega) (by omega)
   rw [show ((0 : Nat) : Int) = 0 from rfl, List.drop_zero] at c1
   rw [List.take_length] at c2
   rw [c1]
   simp only [Option.bind_some]
   rw [c2]
   rfl
  ·rw [show decide ((n : Int) ≤ (r.length : Int)) = false by simpa using hn, Check_f, if_neg hn]
   exact ⟨_, rfl⟩
 ·rw [h1, h2]
  exact ⟨s, rfl⟩
theorem pV_uv : ∀ (k : Nat) (m i n : Nat) (r : List Int), m < 128 ^ (k + 1) → k + i ≤ 9 → m * 2 ^ (7 * i) + n < 18446744073709551616 → (0 < i → 0 < m) → pV i n (uv m ++ r) = some (n + m * 2 ^ (7 * i), r)
 | k, m, i, n, r, h, hi, hlt, h0 => by
  by_cases hm : m < 128
  ·rw [uv_small hm, List.singleton_append, pV]
   have h9 : i < 9 ∨ (i = 9 ∧ (m : Int) < 2) := by
    rcases Nat.lt_or_ge i 9 with q | q
    ·exact .inl q
    ·have : i = 9 := by omega
     subst this
     refine .inr ⟨rfl, ?_⟩
     rcases Nat.lt_or_ge m 2 with q2 | q2
     ·omega
     ·have : 2 * 2 ^ (7 * 9) ≤ m * 2 ^ (7 * 9) := Nat.mul_le_mul_right _ q2
      omega
   rw [if_pos h9, if_pos (by omega), if_pos (by rcases Nat.eq_zero_or_pos i with q | q; exact .inl q; have := h0 q; exact .inr (by omega)), Int.toNat_natCast, Nat.mod_eq_of_lt hm]
  ·rw [uv_large hm, List.cons_append, pV]
   match k, h, hi with
   | 0, h, _ => exact absurd (by simpa using h) hm
   | k + 1, h, hi =>
    rw [if_pos (.inl (by omega)), if_neg (by omega), Int.toNat_natCast, show (m % 128 + 128) % 128 = m % 128 by omega]
    have hp : 2 ^ (7 * (i + 1)) = 128 * 2 ^ (7 * i) := by rw [show 7 * (i + 1) = 7 + 7 * i by omega, Nat.pow_add]
    have hdiv : m / 128 * (128 * 2 ^ (7 * i)) + m % 128 * 2 ^ (7 * i) = m * 2 ^ (7 * i) := by
     rw [← Nat.mul_assoc, ← Nat.add_mul]
     congr 1
     omega
    rw [pV_uv k (m / 128) (i + 1) _ r (by rw [Nat.pow_succ] at h; exact Nat.div_lt_of_lt_mul (by rw [Nat.mul_comm]; exact h)) (by omega) (by rw [hp]; omega) (fun _ => by omega), hp]
    congr 2
    omega
theorem pU_uv {m : Nat} (h : m < 18446744073709551616) (r : List Int) {most : Int} (hm : (m : Int) ≤ most) : pU most (uv m ++ r) = some ((m : Int), r) := by
 unfold pU
 rw [pV_uv 9 m 0 0 r (by omega) (by omega) (by simp; omega) (fun q => absurd q (by omega))]
 simp only [Nat.mul_zero, Nat.pow_zero, Nat.mul_one, Nat.zero_add]
 rw [if_pos hm]
theorem pI_uv {x : Int} (h : i64 x) (r : List Int) : pI (uv (zz x) ++ r) = some (x, r) := by
 unfold pI
 have := zz_lt h
 rw [pU_uv this r (by omega)]
 simp only [Int.toNat_natCast, uz_zz]
def bl (n : Nat) : Nat := if h : n = 0 then 0 else bl (n / 2) + 1
termination_by n
decreasing_by omega
def V (w : Nat) : List Nat → Nat
 | [] => 0
 | d :: ds => d + 2 ^ w * V w ds
def Lt (w : Nat) (ds : List Nat) : Prop := ∀ d ∈ ds, d < 2 ^ w
theorem Lt.tail {w d : Nat} {ds : List Nat} (h : Lt w (d :: ds)) : d < 2 ^ w ∧ Lt w ds := ⟨h d List.mem_cons_self, fun x hx => h x (List.mem_cons_of_mem _ hx)⟩
def by_ (m v : Nat) : List Nat := (List.range m).map fun j => v / 2 ^ (8 * j) % 256
def b0 (l : List Int) : List Int := (l.map fun x => uv (zz x)).flatten
def bD : Int → List Int → List Int
 | _, [] => []
 | a, x :: l => uv (zz (IntKind.i64.wrap (x - a))) ++ bD x l
def bR : Nat → List Int → List Int
 | _, [] => []
 | k, [x] => uv (zz x) ++ uv k
 | k, x :: y :: l => if y = x then bR (k + 1) (y :: l) else uv (zz x) ++ uv k ++ bR 0 (y :: l)
def mn : Int → List Int → Int
 | m, [] => m
 | m, x :: l => mn (if x < m then x else m) l
def ds (lo : Int) (l : List Int) : List Nat := l.map fun x => (x - lo).toNat
def wdt (D : List Nat) : Nat := D.foldl (fun w d => if w < bl d then bl d else w) 0
def ofN (l : List Nat) : List Int := l.map fun (n : Nat) => (n : Int)
def pk : List Int → List Int
 | [] => []
 | x :: l => uv (zz (mn x l)) ++ [(wdt (ds (mn x l) (x :: l)) : Int)] ++ ofN (by_ (((x :: l).length * wdt (ds (mn x l) (x :: l)) + 7) / 8) (V (wdt (ds (mn x l) (x :: l))) (ds (mn x l) (x :: l))))
def body : Nat → List Int → List Int
 | 0, l => b0 l
 | 1, l => bD 0 l
 | 2, l => bR 0 l
 | _, l => pk l
def I64 (l : List Int) : Prop := ∀ x ∈ l, i64 x
theorem I64.get {l : List Int} (h : I64 l) {i : Nat} {x : Int} (hx : l[i]? = some x) : i64 x := h x (List.mem_of_getElem? hx)
theorem I64.take {l : List Int} (h : I64 l) (k : Nat) : I64 (l.take k) := fun x hx => h x (List.mem_of_mem_take hx)
section
variable {l pre : List Int} (hl : l.length ≤ 4096) (hi : I64 l) (hp : pre.length ≤ 20)
include hl hi hp
end
section
variable {l pre : List Int} (hl : l.length ≤ 4096) (hi : I64 l) (hp : pre.length ≤ 20)
include hl hi hp
end
theorem sh {n k : Nat} (hk : k ≤ 64) : ishr .u64 (n : Int) (k : Int) = ((n / 2 ^ k : Nat) : Int) := ishr_nat (k := .u64) n k hk
section
variable {l : List Int} {lo : Int} {w : Nat} (hl : l.length ≤ 4096) (hi : I64 l) (hlo : i64 lo) (hle : ∀ x ∈ l, lo ≤ x) (hw : w ≤ 64) (hL : Lt w (ds lo l))
include hl hi hlo hle hw hL
end
section
variable {l : List Int} {lo : Int} {w : Nat} (hl : l.length ≤ 4096) (hi : I64 l) (hlo : i64 lo) (hle : ∀ x ∈ l, lo ≤ x) (hw : w ≤ 64) (hL : Lt w (ds lo l)) {pre : List Int} (hp : pre.length ≤ 100)
include hl hi hlo hle hw hL hp
end
section
variable {l : List Int} {lo : Int} (hl : l.length ≤ 4096) (hi : I64 l) (hlo : i64 lo) (hle : ∀ x ∈ l, lo ≤ x)
include hl hi hlo hle
end
def part (n w v : Nat) : List Int := (List.range n).map fun q => IntKind.i64.wrap ((v / 2 ^ (q * w) % 2 ^ w : Nat) : Int)
theorem Bs.ofN {D : List Nat} (h : Lt 8 D) : Bs (ofN D) := by
 intro b hb
 obtain ⟨d, hd, rfl⟩ := List.mem_map.1 hb
 have := h d hd
 omega
theorem gI64 {n : Int} (h : gI .i64 n) : i64 n := by
 unfold gI Lit.wf at h
 simp only [Bool.and_eq_true, decide_eq_true_eq] at h
 exact h
theorem gl8 {l : List Int} (h : gL 1 (gI .u8) l) : Bs l := fun x hx => by
 have := h.2 x hx
 unfold gI Lit.wf at this
 simp only [Bool.and_eq_true, decide_eq_true_eq] at this
 have h1 : (0 : Int) ≤ x := this.1
 have h2 : x ≤ 255 := this.2
 omega
def nanB (a : Nat) : Bool := a / 4503599627370496 % 2048 == 2047 && a % 4503599627370496 != 0
theorem order_self (d : Ieee.Datum) : (d.order d == some .eq) = !d.isNaN := by
 cases d with
 | number s m p => simp [Ieee.Datum.order, Ieee.Datum.isNaN]
 | infinity s => simp [Ieee.Datum.order, Ieee.Datum.isNaN]
 | nan s f => simp [Ieee.Datum.order, Ieee.Datum.isNaN]
theorem feq_self (a : Nat) : feq a a = !nanB a := by
 unfold feq Ieee.Format.order
 rw [order_self]
 congr 1
 unfold Ieee.Format.read nanB
 have e1 : FloatKind.f64.format.signWeight = 9223372036854775808 := by decide
 have e2 : FloatKind.f64.format.binade = 4503599627370496 := by decide
 have e3 : FloatKind.f64.format.infRung = 9218868437227405312 := by decide
 simp only [e1, e2, e3]
 rw [Bool.eq_iff_iff]
 simp only [Bool.and_eq_true, beq_iff_eq, bne_iff_ne, ne_eq]
 split
 ·simp [Ieee.Datum.isNaN]; omega
 ·split
  ·simp [Ieee.Datum.isNaN]; omega
  ·split
   ·simp [Ieee.Datum.isNaN]; omega
   ·simp [Ieee.Datum.isNaN]; omega
def canon (a : Nat) : Nat := if nanB a then 9221120237041090560 else a
theorem canon_canon (a : Nat) : canon (canon a) = canon a := by
 unfold canon
 cases h : nanB a with
 | true => rw [if_pos rfl, if_pos (by decide)]
 | false => simp [h]
theorem canon_lt {a : Nat} (h : a < 18446744073709551616) : canon a < 18446744073709551616 := by
 unfold canon; split <;> omega
theorem rBits_eq (a : Nat) : r01_Bits a = some (canon a : Int) := by
 unfold r01_Bits r01_Bits_j1 canon nanB
 have e1 : ishr .u64 (a : Int) 52 = ((a / 4503599627370496 : Nat) : Int) := ishr_nat (k := .u64) a 52 (by decide)
 have e2 : (((a / 4503599627370496 : Nat) : Int)).tmod 2048 = ((a / 4503599627370496 % 2048 : Nat) : Int) := rfl
 have e3 : ((a : Int)).tmod 4503599627370496 = ((a % 4503599627370496 : Nat) : Int) := rfl
 simp only [lt_]
 rw [e1, e2, e3]
 by_cases h1 : a / 4503599627370496 % 2048 = 2047
 ·by_cases h2 : a % 4503599627370496 = 0
  ·simp [h1, h2]
  ·simp [h1, h2]; omega
 ·have : ((a / 4503599627370496 % 2048 : Nat) : Int) ≠ 2047 := by omega
  simp only [beq_iff_eq, this, if_false]
  simp [h1]
theorem cCanon_eq (a : Nat) : real_Canon a = some (canon a) := by
 unfold real_Canon math_IsNaN canon
 simp only [Option.bind_some, feq_self]
 cases nanB a <;> rfl
theorem cBits_eq (a : Nat) : real_Bits a = some (canon a : Int) := by
 unfold real_Bits
 rw [cCanon_eq]; rfl
theorem cOf_eq (a : Int) : real_Of a = some (canon a.toNat) := by
 unfold real_Of
 rw [cCanon_eq]; rfl
theorem rSame_eq (a b : Nat) : r01_Same a b = some ((canon a : Int) == (canon b : Int)) := by
 unfold r01_Same
 rw [rBits_eq, rBits_eq]; rfl
def IsT (B acc : List Int) (t : List Int × Int × List Int) (p : Option (List Int × List Int)) : Prop :=
 match p with
 | some (l, r) => ∃ q : Nat, t = (B, (q : Int), acc ++ l) ∧ q ≤ B.length ∧ B.drop q = r
 | none => ∃ a, t = (B, -1, a)
theorem IsT.cons {B acc : List Int} {t : List Int × Int × List Int} {p : Option (List Int × List Int)} (x : List Int) (h : IsT B (acc ++ x) t p) :
  IsT B acc t (match (generalizing := false) p with | some (l, r) => some (x ++ l, r) | none => none) := by
 cases p with
 | none => exact h
 | some y =>
  obtain ⟨q, h1, h2, h3⟩ := h
  exact ⟨q, by rw [h1, List.append_assoc], h2, h3⟩
section
variable {B : List Int} (hBs : Bs B) (hB : B.length < 1099511627776)
include hBs hB
end
section
variable {B : List Int} (hBs : Bs B) (hB : B.length < 1099511627776)
include hBs hB
end
section
variable {B xs : List Int} {p : Nat} (hp : p ≤ B.length) (hx : B.drop p = xs) (hBs : Bs xs) (hB : B.length < 1099511627776) (hs : xs.length ≤ 32768)
include hp hx hBs hB hs
end
structure SWO {α : Type} (lt : α → α → Bool) : Prop where
 irr : ∀ a, lt a a = false
 trans : ∀ a b c, lt a b = true → lt b c = true → lt a c = true
 neg : ∀ a b c, lt a c = true → lt a b = true ∨ lt b c = true
section
variable {α : Type} {lt : α → α → Bool}
def ins (lt : α → α → Bool) (x : α) : List α → List α
 | [] => [x]
 | y :: l => if lt x y then x :: y :: l else y :: ins lt x l
def sortL (lt : α → α → Bool) (l : List α) : List α := l.foldl (fun acc x => ins lt x acc) []
theorem ins_length (x : α) : ∀ l : List α, (ins lt x l).length = l.length + 1
 | [] => rfl
 | y :: l => by unfold ins; split <;> simp [ins_length x l]
theorem foldl_length : ∀ (l acc : List α), (l.foldl (fun acc x => ins lt x acc) acc).length = acc.length + l.length
 | [], acc => by simp
 | x :: l, acc => by rw [List.foldl_cons, foldl_length l, ins_length]; simp; omega
theorem sortL_length (l : List α) : (sortL lt l).length = l.length := by unfold sortL; rw [foldl_length]; simp
end
def Anc (i j : Nat) : Prop := ∃ m, j / 2 ^ m = i
theorem Anc.refl (i : Nat) : Anc i i := ⟨0, by simp⟩
theorem Anc.up {i j : Nat} (h : Anc i j) : Anc (i / 2) j := by
 obtain ⟨m, rfl⟩ := h
 exact ⟨m + 1, by rw [Nat.pow_succ, Nat.div_div_eq_div_mul]⟩
theorem Anc.trans {i j k : Nat} (h : Anc i j) (h' : Anc j k) : Anc i k := by
 obtain ⟨m, rfl⟩ := h
 obtain ⟨m', rfl⟩ := h'
 exact ⟨m' + m, by rw [Nat.pow_add, Nat.div_div_eq_div_mul]⟩
theorem Anc.le {i j : Nat} (h : Anc i j) : i ≤ j := by obtain ⟨m, rfl⟩ := h; exact Nat.div_le_self _ _
theorem Anc.half {i j : Nat} (h : Anc i j) (hn : i ≠ j) : Anc i (j / 2) := by
 obtain ⟨m, rfl⟩ := h
 cases m with
 | zero => simp at hn
 | succ m => exact ⟨m, by rw [Nat.pow_succ, Nat.mul_comm, Nat.div_div_eq_div_mul]⟩
theorem Anc.one : ∀ (j : Nat), 1 ≤ j → Anc 1 j := by
 intro j
 induction j using Nat.strongRecOn with
 | _ j ih =>
  intro hj
  rcases Nat.lt_or_ge j 2 with h | h
  ·rw [show j = 1 by omega]; exact Anc.refl 1
  ·exact (ih (j / 2) (by omega) (by omega)).trans ⟨1, rfl⟩
theorem Anc.apart {i j : Nat} (hi : 1 ≤ i) (h : Anc (2 * i) j) (h' : Anc (2 * i + 1) j) : False := by
 obtain ⟨m, hm⟩ := h
 obtain ⟨m', hm'⟩ := h'
 rcases Nat.lt_trichotomy m m' with hlt | rfl | hlt
 ·obtain ⟨d, rfl⟩ : ∃ d, m' = m + (d + 1) := ⟨m' - m - 1, by omega⟩
  rw [Nat.pow_add, ← Nat.div_div_eq_div_mul, hm, Nat.pow_succ, Nat.mul_comm (2 ^ d), ← Nat.div_div_eq_div_mul] at hm'
  have := Nat.div_le_self (2 * i / 2) (2 ^ d)
  omega
 ·omega
 ·obtain ⟨d, rfl⟩ : ∃ d, m = m' + (d + 1) := ⟨m - m' - 1, by omega⟩
  rw [Nat.pow_add, ← Nat.div_div_eq_div_mul, hm', Nat.pow_succ, Nat.mul_comm (2 ^ d), ← Nat.div_div_eq_div_mul] at hm
  have := Nat.div_le_self ((2 * i + 1) / 2) (2 ^ d)
  omega
structure STO (k : Nat) (lt : Nat → Nat → Bool) : Prop where
 irr : ∀ a, lt a a = false
 trans : ∀ a b c, lt a b = true → lt b c = true → lt a c = true
 tot : ∀ a b, a < k → b < k → a ≠ b → lt a b = true ∨ lt b a = true
def Inn (lt : Nat → Nat → Bool) (W node : Nat → Nat) (i : Nat) : Prop :=
 lt (W i) (node i) = true ∧ ((W i = W (2 * i) ∧ node i = W (2 * i + 1)) ∨ (W i = W (2 * i + 1) ∧ node i = W (2 * i)))
structure Tour (k : Nat) (lt : Nat → Nat → Bool) (W node : Nat → Nat) : Prop where
 leaf : ∀ i, i < k → W (k + i) = i
 inner : ∀ i, 1 ≤ i → i < k → Inn lt W node i
section
variable {k : Nat} {lt : Nat → Nat → Bool} {W node : Nat → Nat}
theorem below (leaf : ∀ i, i < k → W (k + i) = i) (i0 : Nat) (h0 : 1 ≤ i0) (inner : ∀ i, i0 ≤ i → i < k → (W i = W (2 * i) ∨ W i = W (2 * i + 1))) :
  ∀ (n i : Nat), i0 ≤ i → i < 2 * k → 2 * k - i = n → W i < k ∧ Anc i (W i + k) := by
 intro n
 induction n using Nat.strongRecOn with
 | _ n ih =>
  intro i hi hk hn
  rcases Nat.lt_or_ge i k with h | h
  ·rcases inner i hi h with h1 | h1
   ·obtain ⟨h2, h3⟩ := ih (2 * k - 2 * i) (by omega) (2 * i) (by omega) (by omega) rfl
    rw [h1]
    exact ⟨h2, by have := h3.up; rwa [show 2 * i / 2 = i by omega] at this⟩
   ·obtain ⟨h2, h3⟩ := ih (2 * k - (2 * i + 1)) (by omega) (2 * i + 1) (by omega) (by omega) rfl
    rw [h1]
    exact ⟨h2, by have := h3.up; rwa [show (2 * i + 1) / 2 = i by omega] at this⟩
  ·have := leaf (i - k) (by omega)
   rw [show k + (i - k) = i by omega] at this
   rw [this]
   exact ⟨by omega, by rw [show i - k + k = i by omega]; exact Anc.refl i⟩
theorem Inn.or {i : Nat} (h : Inn lt W node i) : W i = W (2 * i) ∨ W i = W (2 * i + 1) := h.2.elim (fun h => .inl h.1) fun h => .inr h.1
theorem Tour.below (h : Tour k lt W node) {i : Nat} (hi : 1 ≤ i) (hk : i < 2 * k) : W i < k ∧ Anc i (W i + k) :=
 P.below h.leaf 1 (Nat.le_refl _) (fun i h1 h2 => (h.inner i h1 h2).or) _ i hi hk rfl
theorem Tour.min (h : Tour k lt W node) (ho : STO k lt) : ∀ (n i : Nat), 1 ≤ i → i < 2 * k → 2 * k - i = n → ∀ j, j < k → Anc i (j + k) → j = W i ∨ lt (W i) j = true := by
 intro n
 induction n using Nat.strongRecOn with
 | _ n ih =>
  intro i hi hk hn j hj ha
  rcases Nat.lt_or_ge i k with hik | hik
  ·have ha' := ha.half (by omega)
   obtain ⟨m, hm⟩ := ha'
   have key : ∀ c, (c = 2 * i ∨ c = 2 * i + 1) → Anc c (j + k) → j = W i ∨ lt (W i) j = true := by
    intro c hc hac
    obtain ⟨hlt, hh⟩ := h.inner i hi hik
    have := ih (2 * k - c) (by omega) c (by omega) (by omega) rfl j hj hac
    have hW : W i = W c ∨ lt (W i) (W c) = true := by
     rcases hc with rfl | rfl
     ·rcases hh with ⟨h1, h2⟩ | ⟨h1, h2⟩
      ·exact .inl h1
      ·exact .inr (h2 ▸ hlt)
     ·rcases hh with ⟨h1, h2⟩ | ⟨h1, h2⟩
      ·exact .inr (h2 ▸ hlt)
      ·exact .inl h1
    rcases hW with hW | hW
    ·rw [hW]; exact this
    ·rcases this with rfl | this
     ·exact .inr hW
     ·exact .inr (ho.trans _ _ _ hW this)
   obtain ⟨m, hm⟩ := ha
   cases m with
   | zero => simp at hm; omega
   | succ m =>
    rw [Nat.pow_succ, ← Nat.div_div_eq_div_mul] at hm
    exact key _ (by omega) ⟨m, rfl⟩
  ·have := h.leaf (i - k) (by omega)
   rw [show k + (i - k) = i by omega] at this
   obtain ⟨m, hm⟩ := ha
   cases m with
   | zero => simp at hm; exact .inl (by omega)
   | succ m =>
    rw [Nat.pow_succ, Nat.mul_comm, ← Nat.div_div_eq_div_mul] at hm
    have := Nat.div_le_self ((j + k) / 2) (2 ^ m)
    omega
theorem Tour.first (h : Tour k lt W node) (ho : STO k lt) (hk : 1 ≤ k) {j : Nat} (hj : j < k) (hn : j ≠ W 1) : lt (W 1) j = true :=
 (h.min ho _ 1 (Nat.le_refl _) (by omega) rfl j hj (Anc.one _ (by omega))).resolve_left hn
theorem Tour.path (h : Tour k lt W node) (hk : 1 ≤ k) : ∀ (i : Nat), 1 ≤ i → Anc i (W 1 + k) → W i = W 1 := by
 intro i
 induction i using Nat.strongRecOn with
 | _ i ih =>
  intro hi ha
  have hw := (h.below (i := 1) (by omega) (by omega)).1
  have hi2 : i < 2 * k := by have := ha.le; omega
  rcases Nat.lt_or_ge i 2 with h2 | h2
  ·rw [show i = 1 by omega]
  ·have hp := ih (i / 2) (by omega) (by omega) ha.up
   rcases (h.inner (i / 2) (by omega) (by omega)).or with h1 | h1
   ·have hb := h.below (i := 2 * (i / 2)) (by omega) (by omega)
    rw [← h1, hp] at hb
    rcases Nat.mod_two_eq_zero_or_one i with h3 | h3
    ·rw [show i = 2 * (i / 2) by omega, ← h1, hp]
    ·exact (Anc.apart (i := i / 2) (by omega) hb.2 (by rw [show 2 * (i / 2) + 1 = i by omega]; exact ha)).elim
   ·have hb := h.below (i := 2 * (i / 2) + 1) (by omega) (by omega)
    rw [← h1, hp] at hb
    rcases Nat.mod_two_eq_zero_or_one i with h3 | h3
    ·exact (Anc.apart (i := i / 2) (by omega) (by rw [show 2 * (i / 2) = i by omega]; exact ha) hb.2).elim
    ·rw [show i = 2 * (i / 2) + 1 by omega, ← h1, hp]
structure Way (k : Nat) (lt lt' : Nat → Nat → Bool) (W node : Nat → Nat) (c : Nat) (W' node' : Nat → Nat) : Prop where
 c1 : 1 ≤ c
 anc : Anc c (W 1 + k)
 leaf : ∀ i, i < k → W' (k + i) = i
 inner : ∀ i, 1 ≤ i → i < k → ¬ (Anc i c ∧ i ≠ c) → Inn lt' W' node' i
 todo : ∀ i, Anc i c → i ≠ c → node' i = node i
 rest : ∀ j, 1 ≤ j → ¬ Anc j (W 1 + k) → W' j = W j
 rng : W' c < k ∧ Anc c (W' c + k)
theorem Way.start {lt' : Nat → Nat → Bool} (h : Tour k lt W node) (hk : 1 ≤ k) (hl : ∀ a b, a ≠ W 1 → b ≠ W 1 → lt' a b = lt a b) : Way k lt lt' W node (W 1 + k) W node := by
 have hw := (h.below (i := 1) (by omega) (by omega)).1
 refine ⟨by omega, Anc.refl _, h.leaf, fun i h1 h2 hn => ?_, fun _ _ _ => rfl, fun _ _ _ => rfl, ?_⟩
 ·have hna : ¬ Anc i (W 1 + k) := fun ha => hn ⟨ha, by omega⟩
  obtain ⟨hlt, hor⟩ := h.inner i h1 h2
  have hd : ∀ j, 1 ≤ j → j < 2 * k → Anc i j → W j ≠ W 1 := by
   intro j hj1 hj2 hij he
   have := (h.below (i := j) hj1 hj2).2
   rw [he] at this
   exact hna (hij.trans this)
  have d0 := hd i h1 (by omega) (Anc.refl i)
  have d1 := hd (2 * i) (by omega) (by omega) ⟨1, by omega⟩
  have d2 := hd (2 * i + 1) (by omega) (by omega) ⟨1, by omega⟩
  refine ⟨?_, hor⟩
  rw [hl _ _ d0 (by rcases hor with ⟨_, e⟩ | ⟨_, e⟩ <;> rw [e] <;> assumption)]
  exact hlt
 ·have := h.leaf (W 1) hw
  rw [Nat.add_comm] at this
  rw [this]
  exact ⟨hw, Anc.refl _⟩
def upd (f : Nat → Nat) (i v : Nat) : Nat → Nat := fun j => if j = i then v else f j
theorem Way.step {lt' : Nat → Nat → Bool} {c : Nat} {W' node' : Nat → Nat} (h : Tour k lt W node) (hk : 1 ≤ k) (ho : STO k lt') (hw : Way k lt lt' W node c W' node') (hc : 2 ≤ c) :
  node (c / 2) < k ∧ (lt' (node (c / 2)) (W' c) = true → Way k lt lt' W node (c / 2) (upd W' (c / 2) (node (c / 2))) (upd node' (c / 2) (W' c))) ∧
   (lt' (node (c / 2)) (W' c) = false → Way k lt lt' W node (c / 2) (upd W' (c / 2) (W' c)) node') := by
 have hW1 := (h.below (i := 1) (by omega) (by omega)).1
 have hc2 : c < 2 * k := by have := hw.anc.le; omega
 obtain ⟨i, hi⟩ : ∃ i, i = c / 2 := ⟨_, rfl⟩
 rw [← hi]
 have hi1 : 1 ≤ i := by omega
 have hik : i < k := by omega
 have hpi := h.path hk i hi1 (by rw [hi]; exact hw.anc.up)
 have hpc := h.path hk c hw.c1 hw.anc
 obtain ⟨s, hsc⟩ : ∃ s, (s = 2 * i ∧ c = 2 * i + 1) ∨ (s = 2 * i + 1 ∧ c = 2 * i) := by
  rcases Nat.mod_two_eq_zero_or_one c with h3 | h3
  ·exact ⟨2 * i + 1, .inr ⟨rfl, by omega⟩⟩
  ·exact ⟨2 * i, .inl ⟨rfl, by omega⟩⟩
 have hap : ∀ j, Anc c j → Anc s j → False := by
  intro j h1 h2
  rcases hsc with ⟨rfl, e⟩ | ⟨rfl, e⟩ <;> rw [e] at h1
  ·exact Anc.apart hi1 h2 h1
  ·exact Anc.apart hi1 h1 h2
 have hs1 : 1 ≤ s ∧ s < 2 * k ∧ s / 2 = i := by omega
 have hsa : ¬ Anc s (W 1 + k) := fun ha => hap _ hw.anc ha
 have hsW := hw.rest s hs1.1 hsa
 have hsb := h.below (i := s) hs1.1 hs1.2.1
 have hsn : W s ≠ W 1 := fun e => hsa (e ▸ hsb.2)
 have hnd : node i = W s := by
  obtain ⟨_, hor⟩ := h.inner i hi1 hik
  rcases hsc with ⟨rfl, e⟩ | ⟨rfl, e⟩ <;> rcases hor with ⟨h1, h2⟩ | ⟨h1, h2⟩
  ·exact absurd (h1.symm.trans hpi) hsn
  ·exact h2
  ·exact h2
  ·exact absurd (h1.symm.trans hpi) hsn
 have hne : W' c ≠ W s := fun e => hap _ hw.rng.2 (e ▸ hsb.2)
 have mk : ∀ (x y : Nat) (node'' : Nat → Nat), lt' x y = true → ((x = W' c ∧ y = W s) ∨ (x = W s ∧ y = W' c)) → node'' i = y → (∀ j, j ≠ i → node'' j = node' j) → Way k lt lt' W node i (upd W' i x) node'' := by
  intro x y node'' hxy hor hny hno
  have hanc : Anc i (W 1 + k) := by have := hw.anc.up; rwa [← hi] at this
  refine ⟨hi1, hanc, fun j hj => ?_, fun j h1 h2 hn => ?_, fun j ha hj => ?_, fun j h1 hn => ?_, ?_⟩
  ·simp only [upd, if_neg (show k + j ≠ i by omega)]; exact hw.leaf j hj
  ·by_cases hji : j = i
   ·subst hji
    refine ⟨by simp only [upd, if_true]; rw [hny]; exact hxy, ?_⟩
    simp only [upd, if_true, if_neg (show 2 * j ≠ j by omega), if_neg (show 2 * j + 1 ≠ j by omega)]
    rw [hny]
    rcases hsc with ⟨e1, e2⟩ | ⟨e1, e2⟩
    ·rw [show W' (2 * j) = W s by rw [← e1, hsW], show W' (2 * j + 1) = W' c by rw [← e2]]
     exact hor.elim .inr .inl
    ·rw [show W' (2 * j + 1) = W s by rw [← e1, hsW], show W' (2 * j) = W' c by rw [← e2]]
     exact hor
   ·have hna : ¬ Anc j i := fun ha => hn ⟨ha, hji⟩
    have hin := hw.inner j h1 h2 fun ⟨ha, hjc⟩ => hna (by have := ha.half hjc; rwa [← hi] at this)
    have e1 : 2 * j ≠ i := fun e => hna ⟨1, by omega⟩
    have e2 : 2 * j + 1 ≠ i := fun e => hna ⟨1, by omega⟩
    unfold Inn
    simp only [upd, if_neg hji, if_neg e1, if_neg e2]
    rw [hno j hji]
    exact hin
  ·rw [hno j hj]
   exact hw.todo j (ha.trans ⟨1, by omega⟩) (by have := ha.le; omega)
  ·simp only [upd, if_neg (show j ≠ i from fun e => hn (e ▸ hanc))]
   exact hw.rest j h1 hn
  ·simp only [upd, if_true]
   rcases hor with ⟨rfl, _⟩ | ⟨rfl, _⟩
   ·exact ⟨hw.rng.1, by have := hw.rng.2.up; rwa [← hi] at this⟩
   ·exact ⟨hsb.1, by have := hsb.2.up; rwa [hs1.2.2] at this⟩
 rw [hnd]
 refine ⟨hsb.1, fun ht => ?_, fun hf => ?_⟩
 ·exact mk _ (W' c) _ ht (.inr ⟨rfl, rfl⟩) (by simp [upd]) fun j hj => by simp [upd, hj]
 ·refine mk _ (W s) _ ?_ (.inl ⟨rfl, rfl⟩) ?_ fun j hj => rfl
  ·rcases ho.tot _ _ hw.rng.1 hsb.1 hne with h1 | h1
   ·exact h1
   ·rw [h1] at hf; cases hf
  ·rw [hw.todo i ⟨1, by omega⟩ (by omega), hnd]
theorem Way.done {lt' : Nat → Nat → Bool} {W' node' : Nat → Nat} (hw : Way k lt lt' W node 1 W' node') : Tour k lt' W' node' :=
 ⟨hw.leaf, fun i h1 h2 => hw.inner i h1 h2 fun ⟨ha, hn⟩ => hn (by have := ha.le; omega)⟩
structure Rise (k : Nat) (lt : Nat → Nat → Bool) (i : Nat) (W node : Nat → Nat) : Prop where
 leaf : ∀ j, j < k → W (k + j) = j
 inner : ∀ j, i < j → j < k → 1 ≤ j → Inn lt W node j
theorem Rise.step (ho : STO k lt) {i : Nat} (hi1 : 1 ≤ i) (hik : i < k) (h : Rise k lt i W node) :
  W (2 * i) < k ∧ W (2 * i + 1) < k ∧ (lt (W (2 * i + 1)) (W (2 * i)) = true → Rise k lt (i - 1) (upd W i (W (2 * i + 1))) (upd node i (W (2 * i)))) ∧
   (lt (W (2 * i + 1)) (W (2 * i)) = false → Rise k lt (i - 1) (upd W i (W (2 * i))) (upd node i (W (2 * i + 1)))) := by
 have hb := P.below h.leaf (i + 1) (by omega) fun j h1 h2 => (h.inner j (by omega) h2 (by omega)).or
 have b1 := hb _ (2 * i) (by omega) (by omega) rfl
 have b2 := hb _ (2 * i + 1) (by omega) (by omega) rfl
 have hne : W (2 * i) ≠ W (2 * i + 1) := fun e => Anc.apart hi1 b1.2 (by rw [e]; exact b2.2)
 have mk : ∀ x y, lt x y = true → ((x = W (2 * i) ∧ y = W (2 * i + 1)) ∨ (x = W (2 * i + 1) ∧ y = W (2 * i))) → Rise k lt (i - 1) (upd W i x) (upd node i y) := by
  intro x y hxy hor
  refine ⟨fun j hj => ?_, fun j h1 h2 h3 => ?_⟩
  ·simp only [upd, if_neg (show k + j ≠ i by omega)]; exact h.leaf j hj
  ·unfold Inn
   by_cases hji : j = i
   ·subst hji
    simp only [upd, if_true, if_neg (show 2 * j ≠ j by omega), if_neg (show 2 * j + 1 ≠ j by omega)]
    exact ⟨hxy, hor⟩
   ·simp only [upd, if_neg hji, if_neg (show 2 * j ≠ i by omega), if_neg (show 2 * j + 1 ≠ i by omega)]
    exact h.inner j (by omega) h2 h3
 refine ⟨b1.1, b2.1, fun ht => mk _ _ ht (.inr ⟨rfl, rfl⟩), fun hf => mk _ _ ?_ (.inl ⟨rfl, rfl⟩)⟩
 rcases ho.tot _ _ b1.1 b2.1 hne with h1 | h1
 ·exact h1
 ·rw [h1] at hf; cases hf
theorem Rise.done (h : Rise k lt 0 W node) : Tour k lt W node := ⟨h.leaf, fun i h1 h2 => h.inner i h1 h2 h1⟩
end
section
variable {α : Type} {lt : α → α → Bool}
end
section
variable {α : Type} {lt : α → α → Bool}
theorem SWO.lt_of_le_of_lt (h : SWO lt) {a b c : α} (h1 : lt b a = false) (h2 : lt b c = true) : lt a c = true := by
 rcases h.neg b a c h2 with q | q
 ·simp_all
 ·exact q
end
section
variable {α : Type} {lt : α → α → Bool}
inductive Blk (lt : α → α → Bool) (n : Nat) : List α → List α → Prop
 | last {O : List α} : O.length ≤ n → Blk lt n O (sortL lt O)
 | cons {O1 O2 L2 : List α} : O1.length = n → Blk lt n O2 L2 → Blk lt n (O1 ++ O2) (sortL lt O1 ++ L2)
theorem Blk.length {n : Nat} {O L : List α} (h : Blk lt n O L) : L.length = O.length := by
 induction h with
 | last _ => exact sortL_length _
 | cons _ _ ih => simp [sortL_length, ih]
theorem Blk.done {n : Nat} {O L : List α} (h : Blk lt n O L) (hn : O.length ≤ n) : L = sortL lt O := by
 cases h with
 | last _ => rfl
 | @cons O1 O2 L2 h1 h2 =>
  have hl := h2.length
  simp only [List.length_append] at hn
  have e2 := List.eq_nil_of_length_eq_zero (show O2.length = 0 by omega)
  subst e2
  have e3 := List.eq_nil_of_length_eq_zero hl
  rw [e3]
  simp
end
section
variable {α : Type} {lt : α → α → Bool}
end
section
variable {α : Type}
end
theorem bl_irr (a : List UInt8) : Op.bytesLess a a = false := by rw [bytesLess_eq]; simp [List.lt_irrefl]
theorem bl_trans {a b c : List UInt8} (h1 : Op.bytesLess a b = true) (h2 : Op.bytesLess b c = true) : Op.bytesLess a c = true := by
 rw [bytesLess_eq] at *
 simp only [decide_eq_true_eq] at *
 exact List.lt_trans h1 h2
theorem blf_tot {a b : List UInt8} (h : Op.bytesLess a b = false) (h' : Op.bytesLess b a = false) : a = b := by
 rw [bytesLess_eq] at *
 simp only [decide_eq_false_iff_not] at *
 exact List.le_antisymm (List.not_lt.1 h') (List.not_lt.1 h)
def RiseF (l : List S72) : Prop := l.Pairwise fun x y => Op.bytesLess x.f0 y.f0 = true
def pos (l : List S72) (n : List UInt8) : Nat := (l.takeWhile fun x => Op.bytesLess x.f0 n).length
theorem pos_le (l : List S72) (n : List UInt8) : pos l n ≤ l.length := (List.takeWhile_sublist _).length_le
theorem pos_iff : ∀ {l : List S72} (hl : RiseF l) (n : List UInt8) {h : Nat} {x : S72}, l[h]? = some x → (Op.bytesLess x.f0 n = true ↔ h < pos l n)
 | [], _, n, h, x, hx => by simp at hx
 | y :: l, hl, n, h, x, hx => by
  obtain ⟨hy, hl'⟩ := List.pairwise_cons.1 hl
  unfold pos
  rw [List.takeWhile_cons]
  cases hyn : Op.bytesLess y.f0 n with
  | true =>
   rw [if_pos rfl, List.length_cons]
   cases h with
   | zero => cases hx; simp [hyn]
   | succ h =>
    have := pos_iff hl' n (h := h) (x := x) (by simpa using hx)
    unfold pos at this
    rw [this]; omega
  | false =>
   rw [if_neg (by simp), List.length_nil]
   cases h with
   | zero => cases hx; simp [hyn]
   | succ h =>
    have hxm : x ∈ l := List.mem_of_getElem? (by simpa using hx)
    constructor
    ·intro hxn
     have := bl_trans (hy x hxm) hxn
     rw [hyn] at this
     cases this
    ·intro h; omega
theorem find1_eq (x : S72) (n : List UInt8) : files_Store_find_1 x n = some (if Op.bytesLess x.f0 n = true then -1 else if x.f0 = n then 0 else 1) := by
 unfold files_Store_find_1
 cases h : Op.bytesLess x.f0 n with
 | true => rfl
 | false =>
  simp only [Bool.false_eq_true, if_false, Bool.false_or]
  by_cases e : x.f0 = n
  ·simp [e]
  ·simp [e]
def has (l : List S72) (n : List UInt8) : Bool := match l[pos l n]? with
 | some x => x.f0 == n
 | none => false
theorem bsearch_eq (l : List S72) (hl : RiseF l) (hlen : l.length < 1099511627776) (n : List UInt8) : slices_BinarySearchFunc_files_file_files_file_string l n = some ((pos l n : Int), has l n) := by
 unfold slices_BinarySearchFunc_files_file_files_file_string
 have hp := pos_le l n
 obtain ⟨y, hy, hm⟩ := loop_good (b := fun s : Int × Int => slices_BinarySearchFunc_files_file_files_file_string_l1 l n s.1 s.2) (s := (0, (l.length : Int)))
  (fun s => ∃ i j : Nat, s = ((i : Int), (j : Int)) ∧ i ≤ pos l n ∧ pos l n ≤ j ∧ j ≤ l.length) (fun s => (s.2 - s.1).toNat) (fun t => t = ((pos l n : Nat) : Int)) ⟨0, l.length, rfl, Nat.zero_le _, hp, Nat.le_refl _⟩ (by
  rintro s ⟨i, j, rfl, h1, h2, h3⟩
  show (∃ s', slices_BinarySearchFunc_files_file_files_file_string_l1 l n (i : Int) (j : Int) = some (.inl s') ∧ _) ∨ ∃ t, slices_BinarySearchFunc_files_file_files_file_string_l1 l n (i : Int) (j : Int) = some (.inr t) ∧ _
  unfold slices_BinarySearchFunc_files_file_files_file_string_l1
  by_cases hij : i < j
  ·have hx := List.getElem?_eq_getElem (l := l) (i := (i + j) / 2) (by omega)
   have hpi := pos_iff hl n hx
   have e1 : ishr .u64 (((i + j : Nat)) : Int) 1 = (((i + j) / 2 : Nat) : Int) := ishr_nat (k := .u64) (i + j) 1 (by decide)
   rw [if_pos (by simp only [decide_eq_true_eq]; omega)]
   simp only [lt_]
   rw [w64 (n := (i : Int) + (j : Int)) (by omega) (by omega), u64w (by omega) (by omega), show (i : Int) + (j : Int) = ((i + j : Nat) : Int) by omega, e1, w64 (by omega) (by omega), at_int rfl hx]
   simp only [Option.bind_some]
   rw [find1_eq]
   simp only [Option.bind_some]
   unfold slices_BinarySearchFunc_files_file_files_file_string_b2
   by_cases hlt : Op.bytesLess (l[(i + j) / 2]).f0 n = true
   ·have := hpi.1 hlt
    rw [if_pos hlt, if_pos (by decide), w64 (by omega) (by omega)]
    exact .inl ⟨_, rfl, ⟨(i + j) / 2 + 1, j, rfl, by omega, h2, h3⟩, by simp only; omega⟩
   ·have : ¬ (i + j) / 2 < pos l n := fun q => hlt (hpi.2 q)
    rw [if_neg hlt, if_neg (by split <;> decide)]
    exact .inl ⟨_, rfl, ⟨i, (i + j) / 2, rfl, h1, by omega, by omega⟩, by simp only; omega⟩
  ·rw [if_neg (by simp only [decide_eq_true_eq]; omega)]
   exact .inr ⟨_, rfl, by rw [show i = pos l n by omega]⟩)
 rw [hy, hm]
 simp only [Option.bind_some]
 unfold slices_BinarySearchFunc_files_file_files_file_string_x1_0 slices_BinarySearchFunc_files_file_files_file_string_b1 has
 by_cases hlt : pos l n < l.length
 ·have hx := List.getElem?_eq_getElem hlt
  have hpi := pos_iff hl n hx
  have hnl : ¬ Op.bytesLess (l[pos l n]).f0 n = true := fun q => by have := hpi.1 q; omega
  rw [if_pos (by simp only [decide_eq_true_eq]; omega), at_int rfl hx, hx]
  simp only [Option.bind_some]
  rw [find1_eq]
  simp only [Option.bind_some]
  rw [if_neg hnl]
  congr 2
  by_cases e : (l[pos l n]).f0 = n
  ·rw [if_pos e]; simp [e]
  ·rw [if_neg e]; simp [e]
 ·rw [if_neg (by simp only [decide_eq_true_eq]; omega), List.getElem?_eq_none (by omega)]
theorem find_eq (s : S66) (hl : RiseF s.f0) (hlen : s.f0.length < 1099511627776) (n : List UInt8) : files_Store_find s n = some ((pos s.f0 n : Int), has s.f0 n) := by
 unfold files_Store_find
 rw [bsearch_eq s.f0 hl hlen n]
 rfl
def okc (c : UInt8) : Bool := decide (c.toNat = 46) || (decide (48 ≤ c.toNat) && decide (c.toNat ≤ 57)) || (decide (97 ≤ c.toNat) && decide (c.toNat ≤ 122))
def formN (n : List UInt8) : Bool := n.all okc && decide (1 ≤ n.length) && decide (n.length ≤ 32)
theorem form_round (a : List UInt8) (i : Nat) {c : UInt8} (hc : a[i]? = some c) : files_Form_l1 a (i : Int) = files_Form_j1 (i : Int) (!okc c) := by
 have hi := (List.getElem?_eq_some_iff.1 hc).1
 unfold files_Form_l1 okc
 rw [if_pos (by simp only [decide_eq_true_eq]; omega), at_int rfl hc]
 simp only [Option.bind_some, bne_iff_ne, ne_eq, decide_eq_true_eq]
 by_cases h1 : c.toNat = 46
 ·rw [if_neg (by omega), decide_eq_true h1]; rfl
 rw [if_pos (by omega), decide_eq_false h1]
 by_cases h2 : c.toNat < 48
 ·rw [if_pos (by omega), if_pos (by omega), decide_eq_false (show ¬ 48 ≤ c.toNat by omega), decide_eq_false (show ¬ 97 ≤ c.toNat by omega)]; rfl
 rw [if_neg (by omega), decide_eq_true (show 48 ≤ c.toNat by omega)]
 by_cases h3 : 57 < c.toNat
 ·rw [if_pos (by omega), decide_eq_false (show ¬ c.toNat ≤ 57 by omega)]
  by_cases h4 : c.toNat < 97
  ·rw [if_pos (by omega), decide_eq_false (show ¬ 97 ≤ c.toNat by omega)]; rfl
  ·rw [if_neg (by omega), decide_eq_true (show 97 ≤ c.toNat by omega)]
   by_cases h5 : c.toNat ≤ 122
   ·rw [decide_eq_true h5, decide_eq_false (by omega)]; rfl
   ·rw [decide_eq_false h5, decide_eq_true (by omega)]; rfl
 ·rw [if_neg (by omega), decide_eq_true (show c.toNat ≤ 57 by omega)]; rfl
theorem form_loop (a : List UInt8) (ha : a.length < 4611686018427387904) : ∀ (m i : Nat), i + m = a.length → loop (fun s => files_Form_l1 a s) (i : Int) = some (if (a.drop i).all okc = true then .inl () else .inr false)
 | 0, i, hi => by
  refine loop_end ?_
  show files_Form_l1 a (i : Int) = _
  unfold files_Form_l1
  rw [if_neg (by simp only [decide_eq_true_eq]; omega), List.drop_of_length_le (by omega)]
  rfl
 | m + 1, i, hi => by
  have hx := List.getElem?_eq_getElem (l := a) (i := i) (by omega)
  have hr := form_round a i hx
  have hd : a.drop i = a[i] :: a.drop (i + 1) := List.drop_eq_getElem_cons (by omega)
  cases hc : okc a[i] with
  | true =>
   rw [hc] at hr
   have : files_Form_l1 a (i : Int) = some (.inl ((i + 1 : Nat) : Int)) := by
    rw [hr]; unfold files_Form_j1; rw [if_neg (by simp), lt_, w64 (by omega) (by omega)]; rfl
   rw [loop_nxt (b := fun s => files_Form_l1 a s) this, form_loop a ha m (i + 1) (by omega), hd, List.all_cons, hc, Bool.true_and]
  | false =>
   rw [hc] at hr
   have : files_Form_l1 a (i : Int) = some (.inr (.inr false)) := by rw [hr]; rfl
   rw [loop_end (b := fun s => files_Form_l1 a s) this, hd, List.all_cons, hc, Bool.false_and]
   rfl
theorem Form_eq (a : List UInt8) (ha : a.length < 4611686018427387904) : files_Form a = some (formN a) := by
 unfold files_Form
 have h := form_loop a ha a.length 0 (by omega)
 rw [show ((0 : Nat) : Int) = 0 from rfl, List.drop_zero] at h
 rw [h]
 unfold formN
 cases a.all okc with
 | true =>
  show files_Form_b1 a = _
  unfold files_Form_b1
  cases a with
  | nil => rfl
  | cons c a =>
   rw [if_pos (show (!(c :: a == [])) = true from rfl)]
   simp only [List.length_cons, Bool.true_and, decide_eq_true (show 1 ≤ a.length + 1 by omega)]
   congr 1
   exact decide_eq_decide.2 (by omega)
 | false => rfl
theorem rise_mid {P D : List S72} {x : S72} (h : RiseF (P ++ x :: D)) : (∀ y ∈ P, Op.bytesLess y.f0 x.f0 = true) ∧ (∀ y ∈ D, Op.bytesLess x.f0 y.f0 = true) := by
 obtain ⟨h1, h2, h3⟩ := List.pairwise_append.1 h
 exact ⟨fun y hy => h3 y hy x (List.mem_cons_self ..), (List.pairwise_cons.1 h2).1⟩
theorem bl_ne {a b : List UInt8} (h : Op.bytesLess a b = true) : a ≠ b := fun e => by subst e; rw [bl_irr] at h; cases h
theorem bl_asym {a b : List UInt8} (h : Op.bytesLess a b = true) : Op.bytesLess b a = false := by
 cases hb : Op.bytesLess b a with
 | false => rfl
 | true => have := bl_trans h hb; rw [bl_irr] at this; cases this
theorem pos_at {P D : List S72} {n : List UInt8} (hP : ∀ y ∈ P, Op.bytesLess y.f0 n = true) (hD : ∀ y, D.head? = some y → Op.bytesLess y.f0 n = false) : pos (P ++ D) n = P.length := by
 unfold pos
 rw [List.takeWhile_append_of_pos hP, List.length_append]
 cases D with
 | nil => rfl
 | cons y D => rw [List.takeWhile_cons, hD y rfl]; rfl
theorem pos_mid {P D : List S72} {x : S72} {n : List UInt8} (hn : x.f0 = n) (h : RiseF (P ++ x :: D)) : pos (P ++ x :: D) n = P.length := by
 subst hn
 exact pos_at (rise_mid h).1 fun y hy => by cases hy; exact bl_irr _
theorem has_mid {P D : List S72} {x : S72} {n : List UInt8} (hn : x.f0 = n) (h : RiseF (P ++ x :: D)) : has (P ++ x :: D) n = true := by
 unfold has
 rw [pos_mid hn h, List.getElem?_append_right (Nat.le_refl _), Nat.sub_self]
 simp [hn]
theorem pos_gap {P D : List S72} {n : List UInt8} (hP : ∀ y ∈ P, Op.bytesLess y.f0 n = true) (hD : ∀ y ∈ D, Op.bytesLess n y.f0 = true) : pos (P ++ D) n = P.length :=
 pos_at hP fun y hy => bl_asym (hD y (List.mem_of_mem_head? hy))
theorem has_gap {P D : List S72} {n : List UInt8} (hP : ∀ y ∈ P, Op.bytesLess y.f0 n = true) (hD : ∀ y ∈ D, Op.bytesLess n y.f0 = true) : has (P ++ D) n = false := by
 unfold has
 rw [pos_gap hP hD, List.getElem?_append_right (Nat.le_refl _), Nat.sub_self]
 cases D with
 | nil => rfl
 | cons y D =>
  show (y.f0 == n) = false
  rw [beq_eq_false_iff_ne]
  exact fun e => bl_ne (hD y (List.mem_cons_self ..)) e.symm
theorem place {l : List S72} (h : RiseF l) (n : List UInt8) :
  (∃ P x D, l = P ++ x :: D ∧ x.f0 = n) ∨ ∃ P D, l = P ++ D ∧ (∀ y ∈ P, Op.bytesLess y.f0 n = true) ∧ ∀ y ∈ D, Op.bytesLess n y.f0 = true := by
 have hp := pos_le l n
 have hsp : l = l.take (pos l n) ++ l.drop (pos l n) := (List.take_append_drop _ _).symm
 have hP : ∀ y ∈ l.take (pos l n), Op.bytesLess y.f0 n = true := by
  intro y hy
  obtain ⟨j, hj⟩ := List.getElem?_of_mem hy
  rw [List.getElem?_take] at hj
  split at hj
  ·exact (pos_iff h n hj).2 (by assumption)
  ·cases hj
 cases hd : l.drop (pos l n) with
 | nil => rw [hd] at hsp; exact .inr ⟨_, [], hsp, hP, fun y hy => by cases hy⟩
 | cons x D =>
  rw [hd] at hsp
  have hx : l[pos l n]? = some x := by
   have : (l.drop (pos l n))[0]? = some x := by rw [hd]; rfl
   rwa [List.getElem?_drop, Nat.add_zero] at this
  have hxn : Op.bytesLess x.f0 n = false := by
   cases hb : Op.bytesLess x.f0 n with
   | false => rfl
   | true => have := (pos_iff h n hx).1 hb; omega
  by_cases e : x.f0 = n
  ·exact .inl ⟨_, x, D, hsp, e⟩
  ·refine .inr ⟨_, x :: D, hsp, hP, ?_⟩
   have hnx : Op.bytesLess n x.f0 = true := by
    cases hb : Op.bytesLess n x.f0 with
    | true => rfl
    | false => exact absurd (blf_tot hxn hb) e
   intro y hy
   rcases List.mem_cons.1 hy with rfl | hy
   ·exact hnx
   ·have hr := h
    rw [hsp] at hr
    exact bl_trans hnx ((rise_mid hr).2 y hy)
theorem rise_same {P D : List S72} {x y : S72} (hn : x.f0 = y.f0) (h : RiseF (P ++ x :: D)) : RiseF (P ++ y :: D) := by
 obtain ⟨h1, h2, h3⟩ := List.pairwise_append.1 h
 obtain ⟨h4, h5⟩ := List.pairwise_cons.1 h2
 refine List.pairwise_append.2 ⟨h1, List.pairwise_cons.2 ⟨fun z hz => hn ▸ h4 z hz, h5⟩, fun a ha b hb => ?_⟩
 rcases List.mem_cons.1 hb with rfl | hb
 ·rw [← hn]; exact h3 a ha x (List.mem_cons_self ..)
 ·exact h3 a ha b (List.mem_cons_of_mem _ hb)
theorem rise_put {P D : List S72} {y : S72} (h : RiseF (P ++ D)) (hP : ∀ z ∈ P, Op.bytesLess z.f0 y.f0 = true) (hD : ∀ z ∈ D, Op.bytesLess y.f0 z.f0 = true) : RiseF (P ++ y :: D) := by
 obtain ⟨h1, h2, h3⟩ := List.pairwise_append.1 h
 refine List.pairwise_append.2 ⟨h1, List.pairwise_cons.2 ⟨hD, h2⟩, fun a ha b hb => ?_⟩
 rcases List.mem_cons.1 hb with rfl | hb
 ·exact hP a ha
 ·exact h3 a ha b hb
theorem rise_drop {P D : List S72} {x : S72} (h : RiseF (P ++ x :: D)) : RiseF (P ++ D) :=
 h.sublist (List.Sublist.append_left (List.sublist_cons_self x D) P)
def used (l : List S72) : Nat := (l.map fun x => x.f1.length).sum
theorem used_append (P D : List S72) : used (P ++ D) = used P + used D := by simp [used]
theorem used_cons (x : S72) (D : List S72) : used (x :: D) = x.f1.length + used D := by simp [used]
theorem used_mem {l : List S72} {x : S72} (h : x ∈ l) : x.f1.length ≤ used l := by
 induction l with
 | nil => cases h
 | cons y l ih =>
  rw [used_cons]
  rcases List.mem_cons.1 h with rfl | h
  ·omega
  ·have := ih h; omega
theorem used_loop (s : S66) (hl : s.f0.length < 4611686018427387904) (hu : used s.f0 < 4611686018427387904) : ∀ (m i : Nat), i + m = s.f0.length → loop (fun q : Int × Int => files_Store_Used_l1 s q.1 q.2) ((used (s.f0.take i) : Int), (i : Int)) = some (used s.f0 : Int)
 | 0, i, hi => by
  refine loop_end ?_
  show files_Store_Used_l1 s _ (i : Int) = _
  unfold files_Store_Used_l1
  rw [if_neg (by simp only [decide_eq_true_eq]; omega), List.take_of_length_le (by omega)]
 | m + 1, i, hi => by
  have hx := List.getElem?_eq_getElem (l := s.f0) (i := i) (by omega)
  have ht : s.f0.take (i + 1) = s.f0.take i ++ [s.f0[i]] := by rw [List.take_add_one, hx]; rfl
  have hle : used (s.f0.take (i + 1)) ≤ used s.f0 := by
   have := used_append (s.f0.take (i + 1)) (s.f0.drop (i + 1))
   rw [List.take_append_drop] at this
   omega
  have hs : used (s.f0.take (i + 1)) = used (s.f0.take i) + (s.f0[i]).f1.length := by rw [ht, used_append, used_cons]; rfl
  have : files_Store_Used_l1 s (used (s.f0.take i) : Int) (i : Int) = some (.inl ((used (s.f0.take (i + 1)) : Int), ((i + 1 : Nat) : Int))) := by
   unfold files_Store_Used_l1
   rw [if_pos (by simp only [decide_eq_true_eq]; omega), at_int rfl hx]
   simp only [Option.bind_some, lt_]
   rw [w64 (by omega) (by omega), w64 (by omega) (by omega), hs]
   rfl
  rw [loop_nxt (b := fun q : Int × Int => files_Store_Used_l1 s q.1 q.2) this]
  exact used_loop s hl hu m (i + 1) (by omega)
theorem Used_eq (s : S66) (hl : s.f0.length < 4611686018427387904) (hu : used s.f0 < 4611686018427387904) : files_Store_Used (some s) = some (used s.f0 : Int) := by
 show (loop (fun q : Int × Int => files_Store_Used_l1 s q.1 q.2) (0, 0)).bind _ = _
 have h := used_loop s hl hu s.f0.length 0 (by omega)
 rw [List.take_zero] at h
 rw [show ((0 : Int), (0 : Int)) = ((used [] : Int), ((0 : Nat) : Int)) from rfl, h]
 rfl
theorem names_loop (s : S66) (hl : s.f0.length < 1099511627776) : ∀ (m i : Nat), i + m = s.f0.length → loop (fun q : List (List UInt8) × Int => files_Store_List_l1 s q.1 q.2) ((s.f0.take i).map S72.f0, (i : Int)) = some (s.f0.map S72.f0)
 | 0, i, hi => by
  refine loop_end ?_
  show files_Store_List_l1 s _ (i : Int) = _
  unfold files_Store_List_l1
  rw [if_neg (by simp only [decide_eq_true_eq]; omega), List.take_of_length_le (by omega)]
 | m + 1, i, hi => by
  have hx := List.getElem?_eq_getElem (l := s.f0) (i := i) (by omega)
  have ht : s.f0.take (i + 1) = s.f0.take i ++ [s.f0[i]] := by rw [List.take_add_one, hx]; rfl
  have : files_Store_List_l1 s ((s.f0.take i).map S72.f0) (i : Int) = some (.inl ((s.f0.take (i + 1)).map S72.f0, ((i + 1 : Nat) : Int))) := by
   unfold files_Store_List_l1
   rw [if_pos (by simp only [decide_eq_true_eq]; omega), at_int rfl hx]
   simp only [Option.bind_some, lt_]
   rw [chk_pos (by simp only [List.length_map, List.length_take, List.length_singleton]; omega), w64 (by omega) (by omega), ht, List.map_append]
   rfl
  rw [loop_nxt (b := fun q : List (List UInt8) × Int => files_Store_List_l1 s q.1 q.2) this]
  exact names_loop s hl m (i + 1) (by omega)
theorem List_eq (s : S66) (hl : s.f0.length < 1099511627776) : files_Store_List (some s) = some (s.f0.map S72.f0) := by
 show (loop (fun q : List (List UInt8) × Int => files_Store_List_l1 s q.1 q.2) ([], 0)).bind _ = _
 have h := names_loop s hl s.f0.length 0 (by omega)
 rw [List.take_zero] at h
 rw [show (([] : List (List UInt8)), (0 : Int)) = (([] : List S72).map S72.f0, ((0 : Nat) : Int)) from rfl, h]
 rfl
def get (l : List S72) (n : List UInt8) : Option S72 := l.find? fun x => x.f0 == n
def put : List S72 → S72 → List S72
 | [], x => [x]
 | y :: l, x => if Op.bytesLess y.f0 x.f0 = true then y :: put l x else if y.f0 = x.f0 then x :: l else x :: y :: l
def del (l : List S72) (n : List UInt8) : List S72 := l.filter fun x => !(x.f0 == n)
theorem get_mid {P D : List S72} {x : S72} {n : List UInt8} (hn : x.f0 = n) (h : RiseF (P ++ x :: D)) : get (P ++ x :: D) n = some x := by
 subst hn
 unfold get
 rw [List.find?_append, List.find?_eq_none.2 (fun y hy => by simpa using bl_ne ((rise_mid h).1 y hy))]
 simp
theorem get_gap {P D : List S72} {n : List UInt8} (hP : ∀ y ∈ P, Op.bytesLess y.f0 n = true) (hD : ∀ y ∈ D, Op.bytesLess n y.f0 = true) : get (P ++ D) n = none := by
 unfold get
 rw [List.find?_eq_none]
 intro y hy
 rcases List.mem_append.1 hy with h | h
 ·simpa using bl_ne (hP y h)
 ·simpa using fun e => bl_ne (hD y h) e.symm
theorem put_at : ∀ {P D : List S72} {x : S72}, (∀ y ∈ P, Op.bytesLess y.f0 x.f0 = true) → put (P ++ D) x = P ++ put D x
 | [], D, x, h => rfl
 | y :: P, D, x, h => by
  show put (y :: (P ++ D)) x = _
  rw [put, if_pos (h y (List.mem_cons_self ..)), put_at fun z hz => h z (List.mem_cons_of_mem _ hz)]
  rfl
theorem put_mid {P D : List S72} {x y : S72} (hn : x.f0 = y.f0) (h : RiseF (P ++ x :: D)) : put (P ++ x :: D) y = P ++ y :: D := by
 rw [put_at fun z hz => hn ▸ (rise_mid h).1 z hz, put, if_neg (by rw [hn, bl_irr]; simp), if_pos hn]
theorem put_gap {P D : List S72} {y : S72} (hP : ∀ z ∈ P, Op.bytesLess z.f0 y.f0 = true) (hD : ∀ z ∈ D, Op.bytesLess y.f0 z.f0 = true) : put (P ++ D) y = P ++ y :: D := by
 rw [put_at hP]
 congr 1
 cases D with
 | nil => rfl
 | cons z D =>
  have := hD z (List.mem_cons_self ..)
  rw [put, if_neg (by rw [bl_asym this]; simp), if_neg fun e => bl_ne this e.symm]
theorem del_mid {P D : List S72} {x : S72} {n : List UInt8} (hn : x.f0 = n) (h : RiseF (P ++ x :: D)) : del (P ++ x :: D) n = P ++ D := by
 subst hn
 unfold del
 rw [List.filter_append, List.filter_cons_of_neg (by simp), List.filter_eq_self.2, List.filter_eq_self.2]
 ·intro y hy; simpa using fun e : y.f0 = x.f0 => bl_ne ((rise_mid h).2 y hy) e.symm
 ·intro y hy; simpa using bl_ne ((rise_mid h).1 y hy)
theorem del_gap {P D : List S72} {n : List UInt8} (hP : ∀ y ∈ P, Op.bytesLess y.f0 n = true) (hD : ∀ y ∈ D, Op.bytesLess n y.f0 = true) : del (P ++ D) n = P ++ D := by
 unfold del
 rw [List.filter_eq_self]
 intro y hy
 rcases List.mem_append.1 hy with h | h
 ·simpa using bl_ne (hP y h)
 ·simpa using fun e : y.f0 = n => bl_ne (hD y h) e.symm
theorem put_mem {l : List S72} {x y : S72} (h : y ∈ put l x) : y = x ∨ y ∈ l := by
 induction l with
 | nil => exact .inl (by simpa [put] using h)
 | cons z l ih =>
  unfold put at h
  split at h
  ·rcases List.mem_cons.1 h with rfl | h
   ·exact .inr (List.mem_cons_self ..)
   ·rcases ih h with h | h
    ·exact .inl h
    ·exact .inr (List.mem_cons_of_mem _ h)
  ·split at h
   ·rcases List.mem_cons.1 h with rfl | h
    ·exact .inl rfl
    ·exact .inr (List.mem_cons_of_mem _ h)
   ·rcases List.mem_cons.1 h with rfl | h
    ·exact .inl rfl
    ·exact .inr h
theorem put_rise {l : List S72} (h : RiseF l) (x : S72) : RiseF (put l x) := by
 rcases place h x.f0 with ⟨P, y, D, rfl, hy⟩ | ⟨P, D, rfl, hP, hD⟩
 ·rw [put_mid hy h]; exact rise_same hy h
 ·rw [put_gap hP hD]; exact rise_put h hP hD
theorem del_rise {l : List S72} (h : RiseF l) (n : List UInt8) : RiseF (del l n) := List.Pairwise.filter _ h
theorem get_mem {l : List S72} {n : List UInt8} {x : S72} (h : get l n = some x) : x ∈ l ∧ x.f0 = n := ⟨List.mem_of_find?_eq_some h, by simpa using List.find?_some h⟩
theorem del_mem {l : List S72} {n : List UInt8} {x : S72} (h : x ∈ del l n) : x ∈ l := (List.mem_filter.1 h).1
theorem get_put {l : List S72} (h : RiseF l) (x : S72) (n : List UInt8) : get (put l x) n = if x.f0 = n then some x else get l n := by
 have e : ∀ P D : List S72, x.f0 ≠ n → get (P ++ x :: D) n = get (P ++ D) n := by
  intro P D hne
  unfold get
  rw [List.find?_append, List.find?_append, List.find?_cons_of_neg (by simpa using hne)]
 rcases place h x.f0 with ⟨P, y, D, rfl, hy⟩ | ⟨P, D, rfl, hP, hD⟩
 ·rw [put_mid hy h]
  split
  ·rename_i e; exact get_mid e (rise_same hy h)
  ·rename_i hne
   rw [e P D hne]
   unfold get
   rw [List.find?_append, List.find?_append, List.find?_cons_of_neg (by simpa [hy] using hne)]
 ·rw [put_gap hP hD]
  split
  ·rename_i e; exact get_mid e (rise_put h hP hD)
  ·rename_i hne; exact e P D hne
theorem get_del {l : List S72} (h : RiseF l) (m n : List UInt8) : get (del l m) n = if m = n then none else get l n := by
 unfold get del
 split
 ·rename_i e
  subst e
  rw [List.find?_eq_none]
  intro x hx
  simpa using (List.mem_filter.1 hx).2
 ·rename_i hne
  rw [List.find?_filter]
  congr 1
  funext x
  by_cases hx : x.f0 = n
  ·simp [hx]; exact fun e => hne e.symm
  ·simp [hx]
theorem used_put {l : List S72} (h : RiseF l) (x : S72) : used (put l x) + ((get l x.f0).getD ⟨x.f0, [], 0⟩).f1.length = used l + x.f1.length := by
 rcases place h x.f0 with ⟨P, y, D, rfl, hy⟩ | ⟨P, D, rfl, hP, hD⟩
 ·rw [put_mid hy h, get_mid hy h]
  simp only [used_append, used_cons, Option.getD_some]
  omega
 ·rw [put_gap hP hD, get_gap hP hD]
  simp only [used_append, used_cons, Option.getD_none, List.length_nil]
  omega
theorem used_del {l : List S72} (h : RiseF l) (n : List UInt8) : used (del l n) + ((get l n).getD ⟨n, [], 0⟩).f1.length = used l := by
 rcases place h n with ⟨P, y, D, rfl, hy⟩ | ⟨P, D, rfl, hP, hD⟩
 ·rw [del_mid hy h, get_mid hy h]
  simp only [used_append, used_cons, Option.getD_some]
  omega
 ·rw [del_gap hP hD, get_gap hP hD]
  rfl
theorem len_put {l : List S72} (h : RiseF l) (x : S72) : (put l x).length = if (get l x.f0).isSome then l.length else l.length + 1 := by
 rcases place h x.f0 with ⟨P, y, D, rfl, hy⟩ | ⟨P, D, rfl, hP, hD⟩
 ·rw [put_mid hy h, get_mid hy h]; simp
 ·rw [put_gap hP hD, get_gap hP hD]; simp; omega
theorem len_del {l : List S72} (h : RiseF l) (n : List UInt8) : (del l n).length + (if (get l n).isSome then 1 else 0) = l.length := by
 rcases place h n with ⟨P, y, D, rfl, hy⟩ | ⟨P, D, rfl, hP, hD⟩
 ·rw [del_mid hy h, get_mid hy h]; simp; omega
 ·rw [del_gap hP hD, get_gap hP hD]; simp
def step (s : S66) : S66 := ⟨s.f0, s.f1, if 0 < s.f2 then s.f2 - 1 else s.f2, if 0 < s.f2 then s.f2 - 1 == 0 else s.f3, s.f4 + 1⟩
structure SI (k : Nat) (s : S66) : Prop where
 rise : RiseF s.f0
 form : ∀ x ∈ s.f0, formN x.f0 = true
 len : s.f0.length ≤ 500
 room : 1 ≤ s.f1 ∧ s.f1 ≤ 16777216
 use : (used s.f0 : Int) ≤ s.f1
 sure : ∀ x ∈ s.f0, 0 ≤ x.f2 ∧ x.f2 ≤ x.f1.length
 byt : ∀ x ∈ s.f0, ∀ b ∈ x.f1, 0 ≤ b ∧ b < 256
 armed : 0 ≤ s.f2 ∧ s.f2 ≤ 9223372036854775807
 ops : 0 ≤ s.f4 ∧ s.f4 ≤ k
def lookS (s : S66) (n : List UInt8) : Int := if formN n = true then (if s.f3 = true then 9 else 0) else 1
section
variable {k : Nat} {s : S66} {n : List UInt8}
theorem SI.find (h : SI k s) (n : List UInt8) : files_Store_find s n = some ((pos s.f0 n : Int), has s.f0 n) := find_eq s h.rise (by have := h.len; omega) n
theorem SI.one (h : SI k s) {x : S72} (hx : x ∈ s.f0) : (x.f1.length : Int) ≤ 16777216 := by
 have := used_mem hx; have := h.use; have := h.room; omega
theorem SI.Used (h : SI k s) : files_Store_Used (some s) = some (used s.f0 : Int) := Used_eq s (by have := h.len; omega) (by have := h.use; have := h.room; omega)
theorem SI.Names (h : SI k s) : files_Store_List (some s) = some (s.f0.map S72.f0) := List_eq s (by have := h.len; omega)
theorem SI.begin (h : SI k s) (hk : k < 4611686018427387904) : files_Store_begin s = some (!(step s).f3, step s) := by
 have h1 := h.armed; have h2 := h.ops
 unfold files_Store_begin step
 rw [lt_, w64 (n := s.f4 + 1) (by omega) (by omega)]
 by_cases c : 0 < s.f2
 ·rw [if_pos (by simpa using c), lt_, w64 (n := s.f2 - 1) (by omega) (by omega)]
  simp only [if_pos c]
  rfl
 ·rw [if_neg (by simpa using c)]
  simp only [if_neg c]
  rfl
theorem SI.stepped (h : SI k s) : SI (k + 1) (step s) := by
 refine ⟨h.rise, h.form, h.len, h.room, h.use, h.sure, h.byt, ?_, ?_⟩
 ·have := h.armed; simp only [P.step]; split <;> omega
 ·have := h.ops; simp only [P.step]; omega
theorem SI.mono (h : SI k s) {k' : Nat} (hk : k ≤ k') : SI k' s := ⟨h.rise, h.form, h.len, h.room, h.use, h.sure, h.byt, h.armed, by have := h.ops; omega⟩
theorem look_eq (s : S66) (hn : n.length < 4611686018427387904) : files_Store_look (some s) n = some (lookS s n) := by
 show (files_Form n).bind _ = _
 rw [Form_eq n hn]
 simp only [Option.bind_some]
 unfold lookS
 cases formN n with
 | true => cases s.f3 <;> rfl
 | false => rfl
theorem clone_eq (a : List Int) (h : a.length ≤ 140737488355328) : slices_Clone_byte_byte a = some a := by
 unfold slices_Clone_byte_byte
 rw [chk_pos (by simp only [List.length_nil]; omega)]
 cases a with
 | nil => simp [nilsplit]
 | cons b a => simp [nilsplit]
def readS (s : S66) (n : List UInt8) : List Int × Int := if lookS s n = 0 then (match get s.f0 n with | some x => (x.f1, 0) | none => ([], 5)) else ([], lookS s n)
theorem SI.Read (h : SI k s) (hn : n.length < 4611686018427387904) : files_Store_Read (some s) n = some (readS s n) := by
 show (files_Store_look (some s) n).bind _ = _
 rw [look_eq s hn]
 simp only [Option.bind_some]
 unfold readS
 by_cases c : lookS s n = 0
 ·rw [if_neg (by simpa using c), if_pos c, h.find]
  simp only [Option.bind_some]
  have hr := h.rise
  have hone := fun x => h.one (x := x)
  rcases place hr n with ⟨P, x, D, e, hx⟩ | ⟨P, D, e, hP, hD⟩
  ·rw [e] at hr hone ⊢
   have hx1 := hone x (by simp)
   rw [has_mid hx hr, pos_mid hx hr, get_mid hx hr, if_neg (by simp), at_int rfl (show (P ++ x :: D)[P.length]? = some x by simp)]
   simp only [Option.bind_some]
   rw [clone_eq _ (by omega)]
   rfl
  ·rw [e] at hr ⊢
   rw [has_gap hP hD, get_gap hP hD, if_pos (by simp)]
 ·rw [if_pos (by simpa using c), if_neg c]
def appS (s : S66) (n : List UInt8) (p : List Int) : Int × S66 :=
 if lookS s n = 0 then
  if s.f1 - used s.f0 < p.length ∨ ((get s.f0 n).isNone = true ∧ 500 ≤ s.f0.length) then (10, s)
  else (if (P.step s).f3 = true then 9 else 0, { P.step s with f0 := put s.f0 ⟨n, ((get s.f0 n).getD ⟨n, [], 0⟩).f1 ++ p, ((get s.f0 n).getD ⟨n, [], 0⟩).f2⟩ })
 else (lookS s n, s)
theorem app_j1 {y : Int × Bool} {b : Bool} {p : List Int} (h : b = true) : files_Store_Append_j1 n p s y b = some (10, some s) := by subst h; rfl
theorem app_tail {l : List S72} {P D : List S72} {x : S72} {p : List Int} {b : Bool} {y : Bool} {r : S66} (hl : l = P ++ x :: D) (hb : x.f1.length + p.length ≤ 140737488355328) :
  files_Store_Append_j2 p ((P.length : Int), b) (y, r) l = some (if y = true then 0 else 9, some ⟨P ++ ⟨x.f0, x.f1 ++ p, x.f2⟩ :: D, r.f1, r.f2, r.f3, r.f4⟩) := by
 subst hl
 unfold files_Store_Append_j2
 rw [at_int rfl (show (P ++ x :: D)[P.length]? = some x by simp)]
 simp only [Option.bind_some]
 rw [chk_pos (by omega), Int.toNat_natCast, show (P ++ x :: D).set P.length (⟨x.f0, x.f1 ++ p, x.f2⟩ : S72) = P ++ ⟨x.f0, x.f1 ++ p, x.f2⟩ :: D by simp]
 cases y <;> rfl
theorem SI.Append (h : SI k s) (hk : k < 4611686018427387904) (hn : n.length < 4611686018427387904) (p : List Int) : files_Store_Append (some s) n p = some ((appS s n p).1, some (appS s n p).2) := by
 have hu := h.use; have hro := h.room; have hlen := h.len
 show (files_Store_look (some s) n).bind _ = _
 rw [look_eq s hn]
 simp only [Option.bind_some]
 unfold appS
 by_cases c : lookS s n = 0
 ·rw [if_neg (by simpa using c), if_pos c, h.find]
  simp only [Option.bind_some]
  rw [h.Used]
  simp only [Option.bind_some]
  rw [lt_, w64 (by omega) (by omega)]
  by_cases c1 : s.f1 - used s.f0 < p.length
  ·rw [if_pos (by simpa using c1), if_pos (.inl c1), app_j1 rfl]
  ·rw [if_neg (by simpa using c1)]
   have hb := h.begin hk
   have hr := h.rise
   have hone := fun x => h.one (x := x)
   rcases place hr n with ⟨P, x, D, e, hx⟩ | ⟨P, D, e, hP, hD⟩
   ·rw [e] at hr
    have hx1 := hone x (by rw [e]; simp)
    have e1 : has s.f0 n = true := by rw [e]; exact has_mid hx hr
    have e2 : pos s.f0 n = P.length := by rw [e]; exact pos_mid hx hr
    have e3 : get s.f0 n = some x := by rw [e]; exact get_mid hx hr
    rw [e1, e2, if_neg (by simp)]
    unfold files_Store_Append_j1
    rw [if_neg (by simp), hb]
    simp only [Option.bind_some]
    rw [if_neg (by simp), e3, if_neg (by simp [c1]), show (step s).f0 = P ++ x :: D from e, app_tail rfl (by omega), e, Option.getD_some, put_mid hx hr]
    subst hx
    cases (step s).f3 <;> rfl
   ·rw [e] at hr
    have e1 : has s.f0 n = false := by rw [e]; exact has_gap hP hD
    have e2 : pos s.f0 n = P.length := by rw [e]; exact pos_gap hP hD
    have e3 : get s.f0 n = none := by rw [e]; exact get_gap hP hD
    rw [e1, e2, if_pos (by simp)]
    by_cases c2 : 500 ≤ s.f0.length
    ·rw [app_j1 (by simp; omega), e3, if_pos (by simp [c2])]
    ·unfold files_Store_Append_j1
     rw [if_neg (by simp; omega), hb]
     simp only [Option.bind_some]
     have hl : s.f0.length = P.length + D.length := by rw [e]; simp
     have hins : ins_ (step s).f0 (P.length : Int) [(⟨n, [], 0⟩ : S72)] = some (P ++ ⟨n, [], 0⟩ :: D) := by
      unfold ins_
      rw [if_pos ⟨by omega, by show (P.length : Int) ≤ (s.f0.length : Int); omega, by simp, by show (s.f0.length + 1) * 48 ≤ _; omega⟩, show (step s).f0 = P ++ D from e, Int.toNat_natCast, List.take_left, List.drop_left]
      simp
     rw [if_pos (by simp), hins]
     simp only [Option.bind_some]
     rw [e3, if_neg (by simp [c1]; omega), app_tail rfl (by simp only [List.length_nil]; omega), e, Option.getD_none, put_gap hP hD]
     cases (step s).f3 <;> rfl
 ·rw [if_pos (by simpa using c), if_neg c]
end
end Go.Proofs.YtffdckhgkhhbjaaGreatDoor.P
