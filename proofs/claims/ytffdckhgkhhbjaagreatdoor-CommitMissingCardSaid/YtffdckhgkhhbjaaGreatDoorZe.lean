/- Texts of the claim, joined: what it uses of Mcm, Drs17, Mrs17, Dch, Mch, DlCommitMissing, MlCommitMissing, LCommitMissing, DlCommitPlays, DlCommitTwins, DlCommitFalls, Qa, Qb, Qc, Qd, Qe, Qf, Qg, Qh, Qi, Qj, Qk, Qm, Qn, Qo, Qp, Qq, Pa. -/
import Derived.Test.YtffdckhgkhhbjaaGreatDoorZd
import Derived.Test.YtffdckhgkhhbjaaGreatDoorCards
import Derived.Test.YtffdckhgkhhbjaaGreatDoorTie
import Derived.SevenTiedAt
import Derived.LaidMore
import Derived.OpenShut
import Derived.Stop.Joined
import Derived.ProofKit
import Derived.IntWalk
import Derived.Sort.Walk0
namespace Go.Proofs.YtffdckhgkhhbjaaGreatDoor.M
open Go Go.RowKit Go.Proofs.YtffdckhgkhhbjaaGreatDoor.E
set_option linter.unusedVariables false
set_option maxRecDepth 100000
set_option maxHeartbeats 4000000
set_option linter.unusedSimpArgs false
theorem F_commit_file {r : World} {L : List HP} {w : World} (a0 : (List UInt8)) (a1 : Int) {y : ((List UInt8))} (G : commit_file a0 a1 = some y) (X : SH r (L) w) :
  Ret Tryz.prog 28 #[str a0, .int .u64 a1] w fun v w' => v = str y ∧ SH r (L) w' := by
 refine enter Tryz.func28 rfl Tryz.ntmps28 [(0, str a0), (1, .int .u64 a1)] rfl (by simp) ?_
 intro U J Qf hQ hQn
 unfold commit_file at G
 refine ws fun K100 hK100 => ?_
 refine x_m J rfl fun U J => ?_
 refine wn (hK100 _ _ ?_)
 refine ws fun K101 hK101 => ?_
 refine x_m J rfl fun U J => ?_
 obtain ⟨h102, G⟩ := chk_some G
 refine x_v J (r_catS rfl (J.ev rfl) (J.ev rfl) h102) rfl fun U J => ?_
 refine x_m J rfl fun U J => ?_
 obtain ⟨y103, h104, G⟩ := bnd G
 refine x_call' en52 J (F_strconv_FormatUint (L := L) a1 10 h104 X) (fun v U w hR J => ?_) rfl
 obtain ⟨rfl, X⟩ := hR
 obtain ⟨h105, G⟩ := chk_some G
 refine x_v J (r_catS rfl (J.ev rfl) (J.ev rfl) h105) rfl fun U J => ?_
 refine x_m J rfl fun U J => ?_
 refine wn (hK101 _ _ ?_)
 refine wp_ret ?_
 cases G
 refine hQ _ _ ?_
 refine lv Tryz.results28 J rfl ?_
 exact ⟨rfl, X⟩
theorem F_commit_lost {r : World} {L : List HP} {w : World} (a0 : Int) {y : (Int)} (G : commit_lost a0 = some y) (X : SH r (L) w) :
  Ret Tryz.prog 29 #[.int .i64 a0] w fun v w' => v = .int .i64 y ∧ SH r (L) w' := by
 refine enter Tryz.func29 rfl Tryz.ntmps29 [(0, .int .i64 a0)] rfl (by simp) ?_
 intro U J Qf hQ hQn
 unfold commit_lost at G
 refine ws fun K100 hK100 => ?_
 refine x_m J rfl fun U J => ?_
 refine wn (hK100 _ _ ?_)
 refine wp_seq_k fun K101 hK101 => ?_
 refine ws fun K102 hK102 => ?_
 refine x_m J rfl fun U J => ?_
 refine x_v J (r_eqI rfl (J.ev rfl) (J.ev rfl)) rfl fun U J => ?_
 refine wn (hK102 _ _ ?_)
 refine c_if J rfl (fun hb103 => ?_) fun hb103 => ?_
 ·replace G := ift hb103 G
  refine ws fun K104 hK104 => ?_
  refine x_m J rfl fun U J => ?_
  refine wn (hK104 _ _ ?_)
  refine wp_ret ?_
  cases G
  refine hQ _ _ ?_
  refine lv Tryz.results29 J rfl ?_
  exact ⟨rfl, X⟩
 replace G := iff' hb103 G
 refine wp_skip ?_
 refine hK101 _ _ ?_
 refine ws fun K105 hK105 => ?_
 refine x_m J rfl fun U J => ?_
 refine x_m J rfl fun U J => ?_
 refine wn (hK105 _ _ ?_)
 refine wp_ret ?_
 cases G
 refine hQ _ _ ?_
 refine lv Tryz.results29 J rfl ?_
 exact ⟨rfl, X⟩
theorem F_commit_last_1 {r : World} {L : List HP} {w : World} {Z : Nat → Prop} {wz : World} (a0 : S121) (a1 : Int) (g0 : Nat) (g1 : Nat) {y : ((S121 × Int) ⊕ (S121 × Int))} (G : commit_last_1 a0 a1 = some y) (qz : Nat) (hZ : L[qz]? = some (zone Z wz)) (X : SH r (obj121 Z wz g0 a0 :: obj30 g1 a1 :: L) w) :
  RetS Tryz.prog 43 #[.pointer (some ⟨g0, 0, none⟩), (pP g1)] w badC y (fun y v w' => v = .tuple #[] ∧ SH r (obj121 Z wz g0 y.1 :: obj30 g1 y.2 :: L) w') (fun y w' => SH r (obj121 Z wz g0 y.1 :: obj30 g1 y.2 :: L) w') := by
 refine enterS Tryz.func43 rfl Tryz.ntmps43 [(0, (pP g0)), (1, (pP g1))] rfl (by simp) ?_
 intro U J Qf hQ hQn hQp
 unfold commit_last_1 at G
 obtain ⟨A100, n101, c102, X⟩ := obj121_open X
 obtain ⟨h103, X⟩ := (X.pk 1).unpure
 replace X := X.pk 1
 replace X := obj30_open X
 refine wp_reg ?_
 refine x_m J rfl fun U J => ?_
 replace X := SH.pure_ h103 X
 replace X := X.pk 2
 replace X := obj121_mk (x := a0) X
 obtain ⟨y104, h105, G⟩ := bnd G
 rcases y104 with y104 | y104
 rotate_left
 ·replace G := sum_r G
  refine x_callp' (vs := #[.pointer (some ⟨g0, 0, none⟩), .int .u64 500]) en44 J (RetS.rf (F_column_Reader_Uint (L := blk g1 30 [.int .u64 a1] :: L) a0 500 g0 h105 (qz + 1) hZ X)) (fun w hR => ?_) rfl
  replace X := hR
  obtain ⟨A106, n107, c108, X⟩ := obj121_open X
  obtain ⟨h109, X⟩ := (X.pk 1).unpure
  replace X := SH.pure_ h109 X
  replace X := X.pk 1
  replace X := obj121_mk (x := y104) X
  replace X := X.pk 1
  replace X := obj30_mk (x := a1) X
  replace X := X.pk 1
  cases G
  exact hQp _ rfl _ _ J.defers X
 replace G := sum_l G
 refine x_callw' (vs := #[.pointer (some ⟨g0, 0, none⟩), .int .u64 500]) en44 J (RetS.lf (F_column_Reader_Uint (L := blk g1 30 [.int .u64 a1] :: L) a0 500 g0 h105 (qz + 1) hZ X)) (fun v U w hR J => ?_) rfl
 obtain ⟨rfl, X⟩ := hR
 obtain ⟨A110, n111, c112, X⟩ := obj121_open X
 obtain ⟨h113, X⟩ := (X.pk 1).unpure
 refine x_stb' 1 sz30 J X rfl (fun  U w X J => ?_) rfl
 refine wpList_nil ?_
 replace X := SH.pure_ h113 X
 replace X := X.pk 2
 replace X := obj121_mk (x := y104.2) X
 replace X := X.pk 1
 replace X := obj30_mk (x := y104.1) X
 replace X := X.pk 1
 cases G
 refine hQn _ rfl _ _ ?_
 refine lv0n Tryz.results43 J ?_
 exact ⟨rfl, X⟩
theorem F_Try_commit_last_1 {r : World} {L : List HP} {w : World} {Z : Nat → Prop} {wz : World} (a0 : (List Int)) (a60 : Int) (A0 : Option Addr) (n0 : Nat) (c0 : Nat) (g60 : Nat) {y : (Bool × Int)} (G : Try_commit_last_1 a0 a60 = some y) (qz : Nat) (hZ : L[qz]? = some (zone Z wz)) (ha0 : Imm Z wz (kI .u8) A0 n0 c0 a0) (X : SH r (obj30 g60 a60 :: L) w) :
  Ret Tryz.prog 42 #[.slice A0 n0 c0, .func (.func 43) #[] #[.pointer (some ⟨g60, 0, none⟩)]] w fun v w' => v = .bool y.1 ∧ SH r (obj30 g60 y.2 :: L) w' := by
 obtain ⟨y', hy, G⟩ := bnd G
 refine Ret.mono_ (try_walk (R := fun v w' => v = .bool y.1 ∧ SH r (obj30 g60 y.2 :: L) w') en43 X (fun g g4 w1 hS1 => ?_)) (fun v w' h => h)
 replace hS1 := obj121_mk (x := ⟨a0⟩) (hS1.pk 1 |> fun h => (SH.pure_ ha0 (h.pk 1)).pk 1)
 replace hS1 := hS1.pk 1
 replace hS1 := hS1.pk 2
 replace hS1 := hS1.pk 2
 rcases y' with y' | y'
 ·replace G := sum_l G
  cases G
  left
  refine Ret.mono_ (RetS.lf (F_commit_last_1 (L := blk g4 4 [.bool false] :: L) (⟨a0⟩ : S121) a60 g g60 hy (qz + 1) hZ hS1)) ?_
  rintro v w2 ⟨rfl, X⟩
  replace X := X.pk 2 |>.pk 1
  obtain ⟨A', n', c', X⟩ := obj121_open X
  have hQ := SH.unpure (X.pk 1)
  clear X
  obtain ⟨hi, X⟩ := hQ
  refine ⟨_, A', n', c', X, fun w3 h3 => ⟨?_, h3⟩⟩
  rw [← hi.ln]
 ·replace G := sum_r G
  cases G
  right
  refine Calls.mono (RetS.rf (F_commit_last_1 (L := blk g4 4 [.bool false] :: L) (⟨a0⟩ : S121) a60 g g60 hy (qz + 1) hZ hS1)) ?_
  rintro e w2 ⟨rfl, X⟩
  replace X := X.pk 2 |>.drop 1
  exact ⟨rfl, _, X, fun w3 h3 => ⟨rfl, h3⟩⟩
theorem F_commit_last {r : World} {L : List HP} {w : World} {Z : Nat → Prop} {wz : World} (a0 : S66) (g0 : Nat) {y : (Int × Int × S66)} (G : commit_last a0 = some y) (hG0 : Imm Z wz (kI .u32) (some ⟨0, 0, none⟩) 16 16 gl_page_table) (X : SH r (obj66 g0 a0 :: zone Z wz :: L) w) :
  Ret Tryz.prog 25 #[.pointer (some ⟨g0, 0, none⟩)] w fun v w' => ∃ (Z' : Nat → Prop) (wz' : World), v = .tuple #[(.int .u64 y.1), (.int .i64 y.2.1)] ∧ Sub Z wz Z' wz' ∧ SH r (obj66 g0 y.2.2 :: zone Z' wz' :: L) w' := by
 refine enter Tryz.func25 rfl Tryz.ntmps25 [(0, (pP g0))] rfl (by simp) ?_
 intro U J Qf hQ hQn
 unfold commit_last at G
 obtain ⟨A100, n101, c102, X⟩ := obj66_open X
 refine ws fun K103 hK103 => ?_
 refine x_m J rfl fun U J => ?_
 refine x_m J rfl fun U J => ?_
 refine wn (hK103 _ _ ?_)
 refine ws fun K104 hK104 => ?_
 refine x_m J rfl fun U J => ?_
 replace X := X.pk 1 |>.pk 1
 replace X := obj66_mk (x := a0) X
 replace X := SH.optS X
 obtain ⟨y105, h106, G⟩ := bnd G
 refine x_call' en17 J (F_files_Store_Read (L := zone Z wz :: L) (some a0) [109, 97, 110] (some ⟨g0, 0, none⟩) h106 X) (fun v U w hR J => ?_) rfl
 obtain ⟨B107, m108, d109, rfl, X⟩ := hR
 replace X := X.pk 1
 replace X := SH.unoptP X
 obtain ⟨A110, n111, c112, X⟩ := obj66_open X
 refine x_m J rfl fun U J => ?_
 refine x_v J (r_extract rfl (J.ev rfl) rfl) rfl fun U J => ?_
 refine x_v J (r_extract rfl (J.ev rfl) rfl) rfl fun U J => ?_
 refine x_m J rfl fun U J => ?_
 refine x_m J rfl fun U J => ?_
 refine wn (hK104 _ _ ?_)
 refine wp_seq_k fun K113 hK113 => ?_
 refine ws fun K114 hK114 => ?_
 refine x_m J rfl fun U J => ?_
 refine wn (hK114 _ _ ?_)
 refine wp_block_k fun Kx115 hKx115 => ?_
 refine ws fun K116 hK116 => ?_
 refine x_v J (r_eqI rfl (J.ev rfl) (J.ev rfl)) rfl fun U J => ?_
 refine x_m J rfl fun U J => ?_
 refine wn (hK116 _ _ ?_)
 refine c_if J rfl (fun hb117 => ?_) fun hb117 => ?_
 ·replace G := ift hb117 G
  refine ws fun K118 hK118 => ?_
  refine x_m J rfl fun U J => ?_
  refine x_m J rfl fun U J => ?_
  refine wn (hK118 _ _ ?_)
  refine wp_ret ?_
  replace X := X.pk 1 |>.pk 1
  replace X := obj66_mk (x := a0) X
  replace X := X.drop 1 |>.pk 1 |>.pk 1
  cases G
  refine hQ _ _ ?_
  refine lv2 Tryz.results25 J rfl rfl ?_
  exact ⟨Z, wz, rfl, (Sub.refl _ _), X⟩
 replace G := iff' hb117 G
 refine ws fun K119 hK119 => ?_
 refine x_v J (r_eqI rfl (J.ev rfl) (J.ev rfl)) rfl fun U J => ?_
 refine x_m J rfl fun U J => ?_
 refine wn (hK119 _ _ ?_)
 refine c_if J rfl (fun hb120 => ?_) fun hb120 => ?_
 ·replace G := ift hb120 G
  refine wp_skip ?_
  refine hKx115 _ _ ?_
  refine hK113 _ _ ?_
  refine ws fun K121 hK121 => ?_
  refine x_m J rfl fun U J => ?_
  replace X := X.pk 3 |>.pk 3
  obtain ⟨Z122, wz123, X, h124, sb128⟩ := SH.freeze (n := m108) (c := d109) (A := B107) X
  obtain ⟨y125, h126, G⟩ := bnd G
  refine x_call' en41 J (F_page_One (L := zone Z122 wz123 :: blk g0 66 [.slice A110 n111 c112, .int .i64 a0.f1, .int .i64 a0.f2, .bool a0.f3, .int .i64 a0.f4] :: own2 kp72 (kI .u8) 5 (fun x : S72 => x.f1) 72 A110 n111 c112 a0.f0 :: L) y105.1 109 B107 m108 d109 h126 0 rfl h124 (Imm.sub hG0 sb128) X) (fun v U w hR J => ?_) rfl
  obtain ⟨B127, m128, d129, rfl, X⟩ := hR
  refine x_m J rfl fun U J => ?_
  refine x_v J (r_extract rfl (J.ev rfl) rfl) rfl fun U J => ?_
  refine x_v J (r_extract rfl (J.ev rfl) rfl) rfl fun U J => ?_
  refine x_m J rfl fun U J => ?_
  refine x_m J rfl fun U J => ?_
  refine wn (hK121 _ _ ?_)
  refine wp_seq_k fun K130 hK130 => ?_
  refine ws fun K131 hK131 => ?_
  refine x_m J rfl fun U J => ?_
  refine x_v J (r_neI rfl (J.ev rfl) (J.ev rfl)) rfl fun U J => ?_
  refine wn (hK131 _ _ ?_)
  refine c_if J rfl (fun hb132 => ?_) fun hb132 => ?_
  ·replace G := ift hb132 G
   refine ws fun K133 hK133 => ?_
   refine x_m J rfl fun U J => ?_
   refine x_m J rfl fun U J => ?_
   refine x_m J rfl fun U J => ?_
   refine wn (hK133 _ _ ?_)
   refine wp_ret ?_
   replace X := X.pk 3 |>.pk 3
   replace X := obj66_mk (x := a0) X
   replace X := X.drop 1 |>.pk 1 |>.pk 1
   cases G
   refine hQ _ _ ?_
   refine lv2 Tryz.results25 J rfl rfl ?_
   exact ⟨Z122, wz123, rfl, sb128, X⟩
  replace G := iff' hb132 G
  refine wp_skip ?_
  refine hK130 _ _ ?_
  refine ws fun K134 hK134 => ?_
  refine x_alloc' (cs := [.int .u64 0]) zr30 J X (fun g135 U w X J => ?_) rfl
  refine x_stb' 0 sz30 J X rfl (fun  U w X J => ?_) rfl
  refine wn (hK134 _ _ ?_)
  refine wp_seq_k fun K136 hK136 => ?_
  refine wp_seq_k fun K137 hK137 => ?_
  have hj1 : ∀ (x138 : Int) (b139 : Bool), commit_last_j1 a0 x138 b139 = some y → ∀ (Z140 : Nat → Prop) (wz141 : World) (h142 : Sub Z wz Z140 wz141) (U : Act) (w : World), FR 36 [] U [(0, (pP g0)), (7, (pP g135)), (34, .bool b139)] → SH r (blk g0 66 [.slice A110 n111 c112, .int .i64 a0.f1, .int .i64 a0.f2, .bool a0.f3, .int .i64 a0.f4] :: blk g135 30 [.int .u64 x138] :: own2 kp72 (kI .u8) 5 (fun x : S72 => x.f1) 72 A110 n111 c112 a0.f0 :: zone Z140 wz141 :: L) w → K137 U w := by
   intro x138 b139 G Z140 wz141 h142 U w J X
   unfold commit_last_j1 at G
   refine hK137 _ _ ?_
   refine c_if J rfl (fun hb143 => ?_) fun hb143 => ?_
   ·replace G := ift hb143 G
    refine ws fun K144 hK144 => ?_
    refine x_m J rfl fun U J => ?_
    refine x_m J rfl fun U J => ?_
    refine wn (hK144 _ _ ?_)
    refine wp_ret ?_
    replace X := X.pk 2 |>.pk 1
    replace X := obj66_mk (x := a0) X
    replace X := X.drop 1 |>.pk 1 |>.pk 1
    cases G
    refine hQ _ _ ?_
    refine lv2 Tryz.results25 J rfl rfl ?_
    exact ⟨Z140, wz141, rfl, h142, X⟩
   replace G := iff' hb143 G
   refine wp_skip ?_
   refine hK136 _ _ ?_
   refine ws fun K145 hK145 => ?_
   refine x_ld' uu30 (X.cell 1 rfl 0 _ rfl) J (fun U J => ?_) rfl
   refine x_m J rfl fun U J => ?_
   refine x_m J rfl fun U J => ?_
   refine wn (hK145 _ _ ?_)
   refine wp_ret ?_
   replace X := X.pk 2 |>.pk 1
   replace X := obj66_mk (x := a0) X
   replace X := X.drop 1 |>.pk 1 |>.pk 1
   cases G
   refine hQ _ _ ?_
   refine lv2 Tryz.results25 J rfl rfl ?_
   exact ⟨Z140, wz141, rfl, h142, X⟩
  refine wp_reg ?_
  refine x_m J rfl fun U J => ?_
  refine x_v J (r_makeFunc rfl (mapev (vals := #[]) J rfl) (mapev (vals := #[.pointer (some ⟨g135, 0, none⟩)]) J rfl)) rfl fun U J => ?_
  replace X := X.pk 2 |>.pk 2
  obtain ⟨Z146, wz147, X, h148, sb161⟩ := SH.freeze (n := m128) (c := d129) (A := B127) X
  have h149 := Imm.sub h124 sb161
  replace X := X.pk 1
  replace X := obj30_mk (x := 0) X
  obtain ⟨y150, h151, G⟩ := bnd G
  refine x_call' en42 J (F_Try_commit_last_1 (L := zone Z146 wz147 :: blk g0 66 [.slice A110 n111 c112, .int .i64 a0.f1, .int .i64 a0.f2, .bool a0.f3, .int .i64 a0.f4] :: own2 kp72 (kI .u8) 5 (fun x : S72 => x.f1) 72 A110 n111 c112 a0.f0 :: L) y125.1 0 B127 m128 d129 g135 h151 0 rfl h148 X) (fun v U w hR J => ?_) rfl
  obtain ⟨rfl, X⟩ := hR
  replace X := obj30_open X
  refine x_v J (r_not rfl (J.ev rfl)) rfl fun U J => ?_
  refine x_m J rfl fun U J => ?_
  refine bcase (b := !y150.1) (fun hb152 => ?_) fun hb152 => ?_
  ·replace G := ift hb152 G
   refine xO 2 hb152 J rfl fun U J => ?_
   refine x_pickt' hb152 J (fun U J => ?_) rfl
   refine wpList_nil ?_
   replace X := X.pk 1 |>.pk 3 |>.pk 2 |>.pk 3
   exact hj1 y150.2 true G Z146 wz147 (Sub.trans sb128 sb161) U w (J.sub _ rfl) X
  replace G := iff' hb152 G
  refine x_on' hb152 J ?_ rfl
  refine x_ld' uu30 (X.cell 0 rfl 0 _ rfl) J (fun U J => ?_) rfl
  refine x_on' hb152 J ?_ rfl
  refine x_v J (r_eqI rfl (J.ev rfl) (J.ev rfl)) rfl fun U J => ?_
  refine x_pickf' hb152 J (fun U J => ?_) rfl
  refine wpList_nil ?_
  replace X := X.pk 1 |>.pk 3 |>.pk 2 |>.pk 3
  exact hj1 y150.2 (y150.2 == 0) G Z146 wz147 (Sub.trans sb128 sb161) U w (J.sub _ rfl) X
 replace G := iff' hb120 G
 refine ws fun K153 hK153 => ?_
 refine x_m J rfl fun U J => ?_
 refine x_m J rfl fun U J => ?_
 refine x_m J rfl fun U J => ?_
 refine wn (hK153 _ _ ?_)
 refine wp_ret ?_
 replace X := X.pk 1 |>.pk 1
 replace X := obj66_mk (x := a0) X
 replace X := X.drop 1 |>.pk 1 |>.pk 1
 cases G
 refine hQ _ _ ?_
 refine lv2 Tryz.results25 J rfl rfl ?_
 exact ⟨Z, wz, rfl, (Sub.refl _ _), X⟩
theorem F_commit_sweep {r : World} {L : List HP} {w : World} {Z : Nat → Prop} {wz : World} (a0 : S66) (a1 : Int) (g0 : Nat) {y : (Int × S66)} (G : commit_sweep a0 a1 = some y) (qz : Nat) (hZ : L[qz]? = some (zone Z wz)) (hG1 : Gc Z wz 1 isI64) (hG2 : Gc Z wz 2 isEr) (hG3 : Gc Z wz 3 isEr) (X : SH r (obj66 g0 a0 :: L) w) :
  Ret Tryz.prog 26 #[.pointer (some ⟨g0, 0, none⟩), .int .u64 a1] w fun v w' => v = .int .i64 y.1 ∧ SH r (obj66 g0 y.2 :: L) w' := by
 refine enter Tryz.func26 rfl Tryz.ntmps26 [(0, (pP g0)), (1, .int .u64 a1)] rfl (by simp) ?_
 intro U J Qf hQ hQn
 unfold commit_sweep at G
 obtain ⟨A100, n101, c102, X⟩ := obj66_open X
 refine ws fun K103 hK103 => ?_
 refine x_m J rfl fun U J => ?_
 refine wn (hK103 _ _ ?_)
 refine wp_seq_k fun K104 hK104 => ?_
 refine ws fun K105 hK105 => ?_
 refine x_m J rfl fun U J => ?_
 replace X := X.pk 1 |>.pk 1
 replace X := obj66_mk (x := a0) X
 replace X := SH.optS X
 obtain ⟨y106, h107, G⟩ := bnd G
 refine x_call' en14 J (F_files_Store_List (L := L) (some a0) (some ⟨g0, 0, none⟩) h107 X) (fun v U w hR J => ?_) rfl
 obtain ⟨B108, m109, d110, rfl, X⟩ := hR
 replace X := X.pk 1
 replace X := SH.unoptP X
 obtain ⟨A111, n112, c113, X⟩ := obj66_open X
 refine x_len' uu42 (X.rd 2 rfl).2.1 J (fun U J => ?_) rfl
 refine x_m J rfl fun U J => ?_
 refine wn (hK105 _ _ ?_)
 refine wp_block_k fun Kx114 hKx114 => ?_
 have hb1 : ∀ (l115 : (List S72)) (x116 : Int) (x117 : Int) (b118 : Bool) (x119 : Int), commit_sweep_b1 l115 x116 x117 b118 x119 = some y → ∀ (A120 : Option Addr) (n121 : Nat) (c122 : Nat) (U : Act) (w : World), FR 76 [] U [(0, (pP g0))] → SH r (blk g0 66 [.slice A120 n121 c122, .int .i64 x116, .int .i64 x117, .bool b118, .int .i64 x119] :: own2 kp72 (kI .u8) 5 (fun x : S72 => x.f1) 72 A120 n121 c122 l115 :: L) w → Kx114 U w := by
  intro l115 x116 x117 b118 x119 G A120 n121 c122 U w J X
  unfold commit_sweep_b1 at G
  refine hKx114 _ _ ?_
  refine hK104 _ _ ?_
  refine ws fun K123 hK123 => ?_
  refine x_m J rfl fun U J => ?_
  refine wn (hK123 _ _ ?_)
  refine wp_ret ?_
  replace X := X.pk 1 |>.pk 1
  replace X := obj66_mk (x := (⟨l115, x116, x117, b118, x119⟩ : S66)) X
  cases G
  refine hQ _ _ ?_
  refine lv Tryz.results26 J rfl ?_
  exact ⟨rfl, X⟩
 obtain ⟨t124, hl124, G⟩ := bnd G
 have hR124 := G
 have hx124_0 : ∀ (l125 : (List S72)) (x126 : Int) (x127 : Int) (b128 : Bool) (x124 : Int), (.inl (l125, x126, x127, b128, x124)) = t124 → ∀ (A129 : Option Addr) (n130 : Nat) (c131 : Nat) (U : Act) (w : World), FR 76 [] U [(0, (pP g0))] → SH r (blk g0 66 [.slice A129 n130 c131, .int .i64 x126, .int .i64 x127, .bool b128, .int .i64 x124] :: own2 kp72 (kI .u8) 5 (fun x : S72 => x.f1) 72 A129 n130 c131 l125 :: L) w → Kx114 U w := by
  intro l125 x126 x127 b128 x124 ht A129 n130 c131 U w J X
  subst ht
  replace G : commit_sweep_x1_0 l125 x126 x127 b128 x124 = some y := G
  unfold commit_sweep_x1_0 at G
  exact hb1 l125 x126 x127 b128 x124 G A129 n130 c131 U w (J.sub _ rfl) X
 refine wp_loop_fn hl124 (fun s U w => ∃ (A132 : Option Addr) (n133 : Nat) (c134 : Nat), FR 76 [] U [(0, (pP g0)), (1, .int .u64 a1), (15, .slice B108 m109 d110), (16, .int .i64 (y106.length : Int)), (17, .int .i64 s.2.2.2.2.2)] ∧ SH r (blk g0 66 [.slice A132 n133 c134, .int .i64 s.2.1, .int .i64 s.2.2.1, .bool s.2.2.2.1, .int .i64 s.2.2.2.2.1] :: own2 kp72 (kI .u8) 5 (fun x : S72 => x.f1) 72 A132 n133 c134 s.1 :: own kS 9 B108 m109 d110 y106 :: L) w) ⟨A111, n112, c113, J.sub _ rfl, X⟩ ?_
 intro N124 s124 o124 G N124_ T124_ U w hLab
 obtain ⟨l135, x136, x137, b138, x139, x140⟩ := s124
 replace G : commit_sweep_l1 a1 y106 l135 x136 x137 b138 x139 x140 = some o124 := G
 unfold commit_sweep_l1 at G
 try dsimp only at hLab
 obtain ⟨A132, n133, c134, J, X⟩ := hLab
 refine ws fun K141 hK141 => ?_
 refine x_v J (r_ltI rfl (J.ev rfl) (J.ev rfl)) rfl fun U J => ?_
 refine wn (hK141 _ _ ?_)
 refine wp_seq_k fun K142 hK142 => ?_
 refine c_if J rfl (fun hb143 => ?_) fun hb143 => ?_
 ·replace G := ift hb143 G
  refine wp_skip ?_
  refine hK142 _ _ ?_
  refine wp_seq_k fun K144 hK144 => ?_
  refine wp_block_k fun Kx145 hKx145 => ?_
  have hb2 : ∀ (l146 : (List S72)) (x147 : Int) (x148 : Int) (b149 : Bool) (x150 : Int), commit_sweep_b2 x140 l146 x147 x148 b149 x150 = some o124 → ∀ (A151 : Option Addr) (n152 : Nat) (c153 : Nat) (U : Act) (w : World), FR 76 [] U [(0, (pP g0)), (1, .int .u64 a1), (15, .slice B108 m109 d110), (16, .int .i64 (y106.length : Int)), (17, .int .i64 x140)] → SH r (blk g0 66 [.slice A151 n152 c153, .int .i64 x147, .int .i64 x148, .bool b149, .int .i64 x150] :: own2 kp72 (kI .u8) 5 (fun x : S72 => x.f1) 72 A151 n152 c153 l146 :: own kS 9 B108 m109 d110 y106 :: L) w → Kx145 U w := by
   intro l146 x147 x148 b149 x150 G A151 n152 c153 U w J X
   unfold commit_sweep_b2 at G
   refine hKx145 _ _ ?_
   refine hK144 _ _ ?_
   refine wp_reg ?_
   obtain ⟨x154, h155, G⟩ := ltt_ G
   refine x_v (v := .int .i64 x154) J (rv_i h155 (r_add rfl (J.ev rfl) (J.ev rfl))) rfl fun U J => ?_
   refine x_m J rfl fun U J => ?_
   refine wpList_nil ?_
   cases G
   exact ⟨_, N124_ _ rfl, A151, n152, c153, J.sub _ rfl, X⟩
  refine ws fun K156 hK156 => ?_
  obtain ⟨x157, h158, G⟩ := bnd G
  refine x_ia' uu42 sz9 (X.rd 2 rfl) h158 J (fun U J => ?_) rfl
  obtain ⟨cs, hV, hc159⟩ := el (X.rd 2 rfl) h158
  obtain rfl := hV
  refine x_ld' uu9 (hc159 0 _ rfl) J (fun U J => ?_) rfl
  refine x_m J rfl fun U J => ?_
  refine wn (hK156 _ _ ?_)
  refine ws fun K160 hK160 => ?_
  refine x_m J rfl fun U J => ?_
  obtain ⟨y161, h162, G⟩ := bnd G
  refine x_call' en45 J (F_strings_Cut (L := blk g0 66 [.slice A132 n133 c134, .int .i64 x136, .int .i64 x137, .bool b138, .int .i64 x139] :: own2 kp72 (kI .u8) 5 (fun x : S72 => x.f1) 72 A132 n133 c134 l135 :: own kS 9 B108 m109 d110 y106 :: L) x157 [46] h162 (qz + 3) hZ hG1 X) (fun v U w hR J => ?_) rfl
  obtain ⟨rfl, X⟩ := hR
  refine x_m J rfl fun U J => ?_
  refine x_v J (r_extract rfl (J.ev rfl) rfl) rfl fun U J => ?_
  refine x_v J (r_extract rfl (J.ev rfl) rfl) rfl fun U J => ?_
  refine x_v J (r_extract rfl (J.ev rfl) rfl) rfl fun U J => ?_
  refine x_m J rfl fun U J => ?_
  refine x_m J rfl fun U J => ?_
  refine x_m J rfl fun U J => ?_
  refine wn (hK160 _ _ ?_)
  refine ws fun K163 hK163 => ?_
  refine x_m J rfl fun U J => ?_
  obtain ⟨y164, h165, G⟩ := bnd G
  refine x_call' en46 J (F_strconv_ParseUint (L := blk g0 66 [.slice A132 n133 c134, .int .i64 x136, .int .i64 x137, .bool b138, .int .i64 x139] :: own2 kp72 (kI .u8) 5 (fun x : S72 => x.f1) 72 A132 n133 c134 l135 :: own kS 9 B108 m109 d110 y106 :: L) y161.2.1 10 32 h165 (qz + 3) hZ hG2 hG3 X) (fun v U w hR J => ?_) rfl
  obtain ⟨E166, rfl, h167, X⟩ := hR
  refine x_m J rfl fun U J => ?_
  refine x_v J (r_extract rfl (J.ev rfl) rfl) rfl fun U J => ?_
  refine x_v J (r_extract rfl (J.ev rfl) rfl) rfl fun U J => ?_
  refine x_m J rfl fun U J => ?_
  refine x_m J rfl fun U J => ?_
  refine wn (hK163 _ _ ?_)
  refine wp_seq_k fun K168 hK168 => ?_
  have hj1 : ∀ (b169 : Bool), commit_sweep_j1 l135 x136 x137 b138 x139 x140 x157 y161 b169 = some o124 → ∀ (U : Act) (w : World), FR 76 [] U [(0, (pP g0)), (1, .int .u64 a1), (6, str x157), (7, str y161.1), (12, .bool b169), (15, .slice B108 m109 d110), (16, .int .i64 (y106.length : Int)), (17, .int .i64 x140)] → SH r (blk g0 66 [.slice A132 n133 c134, .int .i64 x136, .int .i64 x137, .bool b138, .int .i64 x139] :: own2 kp72 (kI .u8) 5 (fun x : S72 => x.f1) 72 A132 n133 c134 l135 :: own kS 9 B108 m109 d110 y106 :: L) w → K168 U w := by
   intro b169 G U w J X
   unfold commit_sweep_j1 at G
   refine hK168 _ _ ?_
   refine wp_seq_k fun K170 hK170 => ?_
   have hj2 : ∀ (b171 : Bool), commit_sweep_j2 l135 x136 x137 b138 x139 x140 x157 b171 = some o124 → ∀ (U : Act) (w : World), FR 76 [] U [(0, (pP g0)), (1, .int .u64 a1), (6, str x157), (15, .slice B108 m109 d110), (16, .int .i64 (y106.length : Int)), (17, .int .i64 x140), (68, .bool b171)] → SH r (blk g0 66 [.slice A132 n133 c134, .int .i64 x136, .int .i64 x137, .bool b138, .int .i64 x139] :: own2 kp72 (kI .u8) 5 (fun x : S72 => x.f1) 72 A132 n133 c134 l135 :: own kS 9 B108 m109 d110 y106 :: L) w → K170 U w := by
    intro b171 G U w J X
    unfold commit_sweep_j2 at G
    refine hK170 _ _ ?_
    refine c_if J rfl (fun hb172 => ?_) fun hb172 => ?_
    ·replace G := ift hb172 G
     refine ws fun K173 hK173 => ?_
     refine x_m J rfl fun U J => ?_
     refine x_m J rfl fun U J => ?_
     replace X := X.pk 1 |>.pk 1
     replace X := obj66_mk (x := (⟨l135, x136, x137, b138, x139⟩ : S66)) X
     replace X := SH.optS X
     obtain ⟨y174, h175, G⟩ := bnd G
     refine x_call' en15 J (F_files_Store_Delete (L := own kS 9 B108 m109 d110 y106 :: L) (some (⟨l135, x136, x137, b138, x139⟩ : S66)) x157 (some ⟨g0, 0, none⟩) h175 X) (fun v U w hR J => ?_) rfl
     obtain ⟨rfl, X⟩ := hR
     obtain ⟨o176, h177, G⟩ := bnd G
     rw [h177] at X
     replace X := SH.unoptP X
     obtain ⟨A178, n179, c180, X⟩ := obj66_open X
     refine x_m J rfl fun U J => ?_
     refine wn (hK173 _ _ ?_)
     refine ws fun K181 hK181 => ?_
     refine x_m J rfl fun U J => ?_
     refine x_v J (r_neI rfl (J.ev rfl) (J.ev rfl)) rfl fun U J => ?_
     refine wn (hK181 _ _ ?_)
     refine c_if J rfl (fun hb182 => ?_) fun hb182 => ?_
     ·replace G := ift hb182 G
      refine ws fun K183 hK183 => ?_
      refine x_m J rfl fun U J => ?_
      refine x_m J rfl fun U J => ?_
      refine wn (hK183 _ _ ?_)
      refine wp_ret ?_
      replace X := X.pk 1 |>.pk 1
      replace X := obj66_mk (x := o176) X
      replace X := X.drop 1
      cases G
      have ht := T124_ _ rfl
      subst ht
      replace G := hR124
      replace G : some (y174.1, o176) = some y := G
      cases G
      refine hQ _ _ ?_
      refine lv Tryz.results26 J rfl ?_
      exact ⟨rfl, X⟩
     replace G := iff' hb182 G
     refine wp_skip ?_
     exact hb2 o176.f0 o176.f1 o176.f2 o176.f3 o176.f4 G A178 n179 c180 U w (J.sub _ rfl) X
    replace G := iff' hb172 G
    refine wp_skip ?_
    exact hb2 l135 x136 x137 b138 x139 G A132 n133 c134 U w (J.sub _ rfl) X
   refine wp_reg ?_
   refine x_m J rfl fun U J => ?_
   refine x_v J (r_eqS rfl (J.ev rfl) (J.ev rfl)) rfl fun U J => ?_
   refine x_m J rfl fun U J => ?_
   refine bcase (b := x157 == [109, 97, 110, 46, 116, 109, 112]) (fun hb184 => ?_) fun hb184 => ?_
   ·replace G := ift hb184 G
    refine xO 3 hb184 J rfl fun U J => ?_
    refine x_offU' J (fun U J => ?_) rfl
    refine x_offU' J (fun U J => ?_) rfl
    refine xO 2 hb184 J rfl fun U J => ?_
    refine x_offU' J (fun U J => ?_) rfl
    refine xO 1 hb184 J rfl fun U J => ?_
    refine x_pickt' hb184 J (fun U J => ?_) rfl
    refine wpList_nil ?_
    exact hj2 true G U w (J.sub _ rfl) X
   replace G := iff' hb184 G
   refine x_on' hb184 J ?_ rfl
   refine x_m J rfl fun U J => ?_
   refine x_on' hb184 J ?_ rfl
   refine x_v J (r_eqS rfl (J.ev rfl) (J.ev rfl)) rfl fun U J => ?_
   refine x_on' hb184 J ?_ rfl
   refine x_m J rfl fun U J => ?_
   refine bcase (b := y161.1 == [115, 116, 97, 116, 101]) (fun hb185 => ?_) fun hb185 => ?_
   ·replace G := ift hb185 G
    refine xO 2 hb185 J rfl fun U J => ?_
    refine x_on' hb184 J ?_ rfl
    refine x_pickt' hb185 J (fun U J => ?_) rfl
    refine x_on' hb184 J ?_ rfl
    refine x_m J rfl fun U J => ?_
    refine x_on' rfl J ?_ rfl
    refine x_m J rfl fun U J => ?_
    refine x_on' hb184 J ?_ rfl
    refine x_pickt' rfl J (fun U J => ?_) rfl
    refine x_pickf' hb184 J (fun U J => ?_) rfl
    refine wpList_nil ?_
    exact hj2 b169 G U w (J.sub _ rfl) X
   replace G := iff' hb185 G
   refine x_on' hb185 J ?_ rfl
   refine x_m J rfl fun U J => ?_
   refine x_on' hb185 J ?_ rfl
   refine x_v J (r_eqS rfl (J.ev rfl) (J.ev rfl)) rfl fun U J => ?_
   refine x_on' hb184 J ?_ rfl
   refine x_pickf' hb185 J (fun U J => ?_) rfl
   refine x_on' hb184 J ?_ rfl
   refine x_m J rfl fun U J => ?_
   refine bcase (b := y161.1 == [111, 117, 116]) (fun hb186 => ?_) fun hb186 => ?_
   ·replace G := ift hb186 G
    refine x_on' hb186 J ?_ rfl
    refine x_m J rfl fun U J => ?_
    refine x_on' hb184 J ?_ rfl
    refine x_pickt' hb186 J (fun U J => ?_) rfl
    refine x_pickf' hb184 J (fun U J => ?_) rfl
    refine wpList_nil ?_
    exact hj2 b169 G U w (J.sub _ rfl) X
   replace G := iff' hb186 G
   refine xO 1 hb186 J rfl fun U J => ?_
   refine x_on' hb184 J ?_ rfl
   refine x_pickf' hb186 J (fun U J => ?_) rfl
   refine x_pickf' hb184 J (fun U J => ?_) rfl
   refine wpList_nil ?_
   exact hj2 false G U w (J.sub _ rfl) X
  refine wp_reg ?_
  refine x_m J rfl fun U J => ?_
  refine x_v J (r_neE uu99 rfl (J.ev rfl) h167) rfl fun U J => ?_
  refine x_m J rfl fun U J => ?_
  refine bcase (b := y164.2) (fun hb187 => ?_) fun hb187 => ?_
  ·replace G := ift hb187 G
   refine xO 3 hb187 J rfl fun U J => ?_
   refine x_offU' J (fun U J => ?_) rfl
   refine x_offU' J (fun U J => ?_) rfl
   refine x_offU' J (fun U J => ?_) rfl
   refine xO 1 hb187 J rfl fun U J => ?_
   refine x_pickt' hb187 J (fun U J => ?_) rfl
   refine x_m J rfl fun U J => ?_
   refine xO 3 rfl J rfl fun U J => ?_
   refine x_offU' J (fun U J => ?_) rfl
   refine x_offU' J (fun U J => ?_) rfl
   refine x_offU' J (fun U J => ?_) rfl
   refine x_offU' J (fun U J => ?_) rfl
   refine x_offU' J (fun U J => ?_) rfl
   refine x_offU' J (fun U J => ?_) rfl
   refine x_offU' J (fun U J => ?_) rfl
   refine xO 1 rfl J rfl fun U J => ?_
   refine x_pickt' rfl J (fun U J => ?_) rfl
   refine x_m J rfl fun U J => ?_
   refine wpList_nil ?_
   exact hj1 true G U w (J.sub _ rfl) X
  replace G := iff' hb187 G
  refine x_on' hb187 J ?_ rfl
  refine x_m J rfl fun U J => ?_
  refine x_on' hb187 J ?_ rfl
  refine x_v J (r_eqS rfl (J.ev rfl) (J.ev rfl)) rfl fun U J => ?_
  refine x_on' hb187 J ?_ rfl
  refine x_m J rfl fun U J => ?_
  refine bcase (b := y161.1 == [115, 116, 97, 116, 101]) (fun hb188 => ?_) fun hb188 => ?_
  ·replace G := ift hb188 G
   refine x_on' hb188 J ?_ rfl
   refine x_m J rfl fun U J => ?_
   refine x_on' hb188 J ?_ rfl
   refine x_m J rfl fun U J => ?_
   refine x_on' hb188 J ?_ rfl
   refine x_v J (r_neI rfl (J.ev rfl) (J.ev rfl)) rfl fun U J => ?_
   refine x_on' hb187 J ?_ rfl
   refine x_pickt' hb188 J (fun U J => ?_) rfl
   refine x_pickf' hb187 J (fun U J => ?_) rfl
   refine x_m J rfl fun U J => ?_
   refine bcase (b := y164.1 != a1) (fun hb189 => ?_) fun hb189 => ?_
   ·replace G := ift hb189 G
    refine xO 3 hb189 J rfl fun U J => ?_
    refine x_offU' J (fun U J => ?_) rfl
    refine x_offU' J (fun U J => ?_) rfl
    refine x_offU' J (fun U J => ?_) rfl
    refine x_offU' J (fun U J => ?_) rfl
    refine x_offU' J (fun U J => ?_) rfl
    refine x_offU' J (fun U J => ?_) rfl
    refine x_offU' J (fun U J => ?_) rfl
    refine xO 1 hb189 J rfl fun U J => ?_
    refine x_pickt' hb189 J (fun U J => ?_) rfl
    refine x_m J rfl fun U J => ?_
    refine wpList_nil ?_
    exact hj1 true G U w (J.sub _ rfl) X
   replace G := iff' hb189 G
   refine x_on' hb189 J ?_ rfl
   refine x_m J rfl fun U J => ?_
   refine x_on' hb189 J ?_ rfl
   refine x_v J (r_eqS rfl (J.ev rfl) (J.ev rfl)) rfl fun U J => ?_
   refine x_on' hb189 J ?_ rfl
   refine x_m J rfl fun U J => ?_
   refine bcase (b := y161.1 == [111, 117, 116]) (fun hb190 => ?_) fun hb190 => ?_
   ·replace G := ift hb190 G
    refine x_on' hb190 J ?_ rfl
    refine x_m J rfl fun U J => ?_
    refine x_on' hb190 J ?_ rfl
    refine x_v J (r_eqI rfl (J.ev rfl) (J.ev rfl)) rfl fun U J => ?_
    refine x_on' hb190 J ?_ rfl
    refine x_m J rfl fun U J => ?_
    refine bcase (b := y164.1 == 0) (fun hb191 => ?_) fun hb191 => ?_
    ·replace G := ift hb191 G
     refine xO 3 hb191 J rfl fun U J => ?_
     refine x_on' hb190 J ?_ rfl
     refine x_pickt' hb191 J (fun U J => ?_) rfl
     refine x_on' hb189 J ?_ rfl
     refine x_pickt' hb190 J (fun U J => ?_) rfl
     refine x_pickf' hb189 J (fun U J => ?_) rfl
     refine x_m J rfl fun U J => ?_
     refine wpList_nil ?_
     exact hj1 true G U w (J.sub _ rfl) X
    replace G := iff' hb191 G
    refine x_on' hb191 J ?_ rfl
    refine x_m J rfl fun U J => ?_
    refine x_on' hb191 J ?_ rfl
    refine x_m J rfl fun U J => ?_
    refine x_on' hb191 J ?_ rfl
    refine x_v J (r_gtI rfl (J.ev rfl) (J.ev rfl)) rfl fun U J => ?_
    refine x_on' hb190 J ?_ rfl
    refine x_pickf' hb191 J (fun U J => ?_) rfl
    refine x_on' hb189 J ?_ rfl
    refine x_pickt' hb190 J (fun U J => ?_) rfl
    refine x_pickf' hb189 J (fun U J => ?_) rfl
    refine x_m J rfl fun U J => ?_
    refine wpList_nil ?_
    exact hj1 (decide (a1 < y164.1)) G U w (J.sub _ rfl) X
   replace G := iff' hb190 G
   refine xO 3 hb190 J rfl fun U J => ?_
   refine x_offU' J (fun U J => ?_) rfl
   refine x_offU' J (fun U J => ?_) rfl
   refine x_offU' J (fun U J => ?_) rfl
   refine xO 1 hb190 J rfl fun U J => ?_
   refine x_on' hb189 J ?_ rfl
   refine x_pickf' hb190 J (fun U J => ?_) rfl
   refine x_pickf' hb189 J (fun U J => ?_) rfl
   refine x_m J rfl fun U J => ?_
   refine wpList_nil ?_
   exact hj1 false G U w (J.sub _ rfl) X
  replace G := iff' hb188 G
  refine xO 3 hb188 J rfl fun U J => ?_
  refine x_on' hb187 J ?_ rfl
  refine x_pickf' hb188 J (fun U J => ?_) rfl
  refine x_pickf' hb187 J (fun U J => ?_) rfl
  refine x_m J rfl fun U J => ?_
  refine x_on' rfl J ?_ rfl
  refine x_m J rfl fun U J => ?_
  refine x_on' rfl J ?_ rfl
  refine x_v J (r_eqS rfl (J.ev rfl) (J.ev rfl)) rfl fun U J => ?_
  refine x_on' rfl J ?_ rfl
  refine x_m J rfl fun U J => ?_
  refine bcase (b := y161.1 == [111, 117, 116]) (fun hb192 => ?_) fun hb192 => ?_
  ·replace G := ift hb192 G
   refine x_on' hb192 J ?_ rfl
   refine x_m J rfl fun U J => ?_
   refine x_on' hb192 J ?_ rfl
   refine x_v J (r_eqI rfl (J.ev rfl) (J.ev rfl)) rfl fun U J => ?_
   refine x_on' hb192 J ?_ rfl
   refine x_m J rfl fun U J => ?_
   refine bcase (b := y164.1 == 0) (fun hb193 => ?_) fun hb193 => ?_
   ·replace G := ift hb193 G
    refine xO 3 hb193 J rfl fun U J => ?_
    refine x_on' hb192 J ?_ rfl
    refine x_pickt' hb193 J (fun U J => ?_) rfl
    refine x_on' rfl J ?_ rfl
    refine x_pickt' hb192 J (fun U J => ?_) rfl
    refine x_pickf' rfl J (fun U J => ?_) rfl
    refine x_m J rfl fun U J => ?_
    refine wpList_nil ?_
    exact hj1 true G U w (J.sub _ rfl) X
   replace G := iff' hb193 G
   refine x_on' hb193 J ?_ rfl
   refine x_m J rfl fun U J => ?_
   refine x_on' hb193 J ?_ rfl
   refine x_m J rfl fun U J => ?_
   refine x_on' hb193 J ?_ rfl
   refine x_v J (r_gtI rfl (J.ev rfl) (J.ev rfl)) rfl fun U J => ?_
   refine x_on' hb192 J ?_ rfl
   refine x_pickf' hb193 J (fun U J => ?_) rfl
   refine x_on' rfl J ?_ rfl
   refine x_pickt' hb192 J (fun U J => ?_) rfl
   refine x_pickf' rfl J (fun U J => ?_) rfl
   refine x_m J rfl fun U J => ?_
   refine wpList_nil ?_
   exact hj1 (decide (a1 < y164.1)) G U w (J.sub _ rfl) X
  replace G := iff' hb192 G
  refine xO 3 hb192 J rfl fun U J => ?_
  refine x_offU' J (fun U J => ?_) rfl
  refine x_offU' J (fun U J => ?_) rfl
  refine x_offU' J (fun U J => ?_) rfl
  refine xO 1 hb192 J rfl fun U J => ?_
  refine x_on' rfl J ?_ rfl
  refine x_pickf' hb192 J (fun U J => ?_) rfl
  refine x_pickf' rfl J (fun U J => ?_) rfl
  refine x_m J rfl fun U J => ?_
  refine wpList_nil ?_
  exact hj1 false G U w (J.sub _ rfl) X
 replace G := iff' hb143 G
 refine wp_exit ?_
 replace X := X.drop 2
 cases G
 exact hx124_0 l135 x136 x137 b138 x139 (T124_ _ rfl) A132 n133 c134 U w (J.sub _ rfl) X
theorem F_commit_put {r : World} {L : List HP} {w : World} (a0 : S66) (a1 : (List UInt8)) (a2 : (List Int)) (g0 : Nat) (A2 : Option Addr) (n2 : Nat) (c2 : Nat) {y : (Int × S66)} (G : commit_put a0 a1 a2 = some y) (ha2 : RdL L (kI .u8) A2 n2 c2 a2) (X : SH r (obj66 g0 a0 :: L) w) :
  Ret Tryz.prog 47 #[.pointer (some ⟨g0, 0, none⟩), str a1, .slice A2 n2 c2] w fun v w' => v = .int .i64 y.1 ∧ SH r (obj66 g0 y.2 :: L) w' := by
 refine enter Tryz.func47 rfl Tryz.ntmps47 [(0, (pP g0)), (1, str a1), (2, .slice A2 n2 c2)] rfl (by simp) ?_
 intro U J Qf hQ hQn
 unfold commit_put at G
 obtain ⟨A100, n101, c102, X⟩ := obj66_open X
 refine ws fun K103 hK103 => ?_
 refine x_m J rfl fun U J => ?_
 refine wn (hK103 _ _ ?_)
 refine ws fun K104 hK104 => ?_
 refine x_m J rfl fun U J => ?_
 refine x_m J rfl fun U J => ?_
 refine x_m J rfl fun U J => ?_
 replace X := X.pk 1 |>.pk 1
 replace X := obj66_mk (x := a0) X
 replace X := SH.optS X
 obtain ⟨y105, h106, G⟩ := bnd G
 refine x_call' en9 J (F_files_Store_Append (L := L) (some a0) a1 a2 (some ⟨g0, 0, none⟩) A2 n2 c2 h106 (RdL.sfx 0 rfl ha2) X) (fun v U w hR J => ?_) rfl
 obtain ⟨rfl, X⟩ := hR
 obtain ⟨o107, h108, G⟩ := bnd G
 rw [h108] at X
 replace X := SH.unoptP X
 obtain ⟨A109, n110, c111, X⟩ := obj66_open X
 refine x_m J rfl fun U J => ?_
 refine wn (hK104 _ _ ?_)
 refine wp_seq_k fun K112 hK112 => ?_
 have hj1 : ∀ (l113 : (List S72)) (x114 : Int) (x115 : Int) (b116 : Bool) (x117 : Int) (x118 : Int), commit_put_j1 l113 x114 x115 b116 x117 x118 = some y → ∀ (A119 : Option Addr) (n120 : Nat) (c121 : Nat) (U : Act) (w : World), FR 18 [] U [(0, (pP g0)), (7, .int .i64 x118)] → SH r (blk g0 66 [.slice A119 n120 c121, .int .i64 x114, .int .i64 x115, .bool b116, .int .i64 x117] :: own2 kp72 (kI .u8) 5 (fun x : S72 => x.f1) 72 A119 n120 c121 l113 :: L) w → K112 U w := by
  intro l113 x114 x115 b116 x117 x118 G A119 n120 c121 U w J X
  unfold commit_put_j1 at G
  refine hK112 _ _ ?_
  refine ws fun K122 hK122 => ?_
  refine x_m J rfl fun U J => ?_
  refine x_m J rfl fun U J => ?_
  refine wn (hK122 _ _ ?_)
  refine wp_ret ?_
  replace X := X.pk 1 |>.pk 1
  replace X := obj66_mk (x := (⟨l113, x114, x115, b116, x117⟩ : S66)) X
  cases G
  refine hQ _ _ ?_
  refine lv Tryz.results47 J rfl ?_
  exact ⟨rfl, X⟩
 refine ws fun K123 hK123 => ?_
 refine x_m J rfl fun U J => ?_
 refine x_v J (r_eqI rfl (J.ev rfl) (J.ev rfl)) rfl fun U J => ?_
 refine wn (hK123 _ _ ?_)
 refine c_if J rfl (fun hb124 => ?_) fun hb124 => ?_
 ·replace G := ift hb124 G
  refine wp_reg ?_
  refine x_m J rfl fun U J => ?_
  refine x_m J rfl fun U J => ?_
  replace X := X.pk 1 |>.pk 1
  replace X := obj66_mk (x := o107) X
  replace X := SH.optS X
  obtain ⟨y125, h126, G⟩ := bnd G
  refine x_call' en66 J (F_files_Store_Sync (L := L) (some o107) a1 (some ⟨g0, 0, none⟩) h126 X) (fun v U w hR J => ?_) rfl
  obtain ⟨rfl, X⟩ := hR
  obtain ⟨o127, h128, G⟩ := bnd G
  rw [h128] at X
  replace X := SH.unoptP X
  obtain ⟨A129, n130, c131, X⟩ := obj66_open X
  refine x_m J rfl fun U J => ?_
  refine wpList_nil ?_
  exact hj1 o127.f0 o127.f1 o127.f2 o127.f3 o127.f4 y125.1 G A129 n130 c131 U w (J.sub _ rfl) X
 replace G := iff' hb124 G
 refine wp_skip ?_
 exact hj1 o107.f0 o107.f1 o107.f2 o107.f3 o107.f4 y105.1 G A109 n110 c111 U w (J.sub _ rfl) X
theorem F_commit_write {r : World} {L : List HP} {w : World} {Z : Nat → Prop} {wz : World} (a0 : S66) (a1 : Int) (a2 : (List Int)) (a3 : (List S63)) (g0 : Nat) (A2 : Option Addr) (n2 : Nat) (c2 : Nat) (A3 : Option Addr) (n3 : Nat) (c3 : Nat) {y : (Int × S66)} (G : commit_write a0 a1 a2 a3 = some y) (qz : Nat) (hZ : L[qz]? = some (zone Z wz)) (ha2 : RdL L (kI .u8) A2 n2 c2 a2) (ha3 : RdL L k63 A3 n3 c3 a3) (hG0 : Imm Z wz (kI .u32) (some ⟨0, 0, none⟩) 16 16 gl_page_table) (X : SH r (obj66 g0 a0 :: L) w) :
  Ret Tryz.prog 27 #[.pointer (some ⟨g0, 0, none⟩), .int .u64 a1, .slice A2 n2 c2, .slice A3 n3 c3] w fun v w' => v = .int .i64 y.1 ∧ SH r (obj66 g0 y.2 :: L) w' := by
 refine enter Tryz.func27 rfl Tryz.ntmps27 [(0, (pP g0)), (1, .int .u64 a1), (2, .slice A2 n2 c2), (3, .slice A3 n3 c3)] rfl (by simp) ?_
 intro U J Qf hQ hQn
 unfold commit_write at G
 obtain ⟨A100, n101, c102, X⟩ := obj66_open X
 refine ws fun K103 hK103 => ?_
 refine x_m J rfl fun U J => ?_
 refine wn (hK103 _ _ ?_)
 refine wp_seq_k fun K104 hK104 => ?_
 refine ws fun K105 hK105 => ?_
 refine x_m J rfl fun U J => ?_
 refine x_m J rfl fun U J => ?_
 obtain ⟨y106, h107, G⟩ := bnd G
 refine x_call' en28 J (F_commit_file (L := blk g0 66 [.slice A100 n101 c102, .int .i64 a0.f1, .int .i64 a0.f2, .bool a0.f3, .int .i64 a0.f4] :: own2 kp72 (kI .u8) 5 (fun x : S72 => x.f1) 72 A100 n101 c102 a0.f0 :: L) [111, 117, 116] a1 h107 X) (fun v U w hR J => ?_) rfl
 obtain ⟨rfl, X⟩ := hR
 refine x_m J rfl fun U J => ?_
 obtain ⟨y108, h109, G⟩ := bnd G
 refine x_call' en48 J (F_ledger_Lay (L := blk g0 66 [.slice A100 n101 c102, .int .i64 a0.f1, .int .i64 a0.f2, .bool a0.f3, .int .i64 a0.f4] :: own2 kp72 (kI .u8) 5 (fun x : S72 => x.f1) 72 A100 n101 c102 a0.f0 :: L) a3 A3 n3 c3 h109 (qz + 2) hZ (RdL.sfx 2 rfl ha3) hG0 X) (fun v U w hR J => ?_) rfl
 obtain ⟨B110, m111, d112, rfl, X⟩ := hR
 replace X := X.pk 2 |>.pk 2
 replace X := obj66_mk (x := a0) X
 obtain ⟨y113, h114, G⟩ := bnd G
 refine x_call' en47 J (F_commit_put (L := own (kI .u8) 5 B110 m111 d112 y108 :: L) a0 y106 y108 g0 B110 m111 d112 h114 (RdL.own 0 rfl (X.dropN 1)) X) (fun v U w hR J => ?_) rfl
 obtain ⟨rfl, X⟩ := hR
 obtain ⟨A115, n116, c117, X⟩ := obj66_open X
 refine x_m J rfl fun U J => ?_
 refine wn (hK105 _ _ ?_)
 refine ws fun K118 hK118 => ?_
 refine x_m J rfl fun U J => ?_
 refine x_v J (r_neI rfl (J.ev rfl) (J.ev rfl)) rfl fun U J => ?_
 refine wn (hK118 _ _ ?_)
 refine c_if J rfl (fun hb119 => ?_) fun hb119 => ?_
 ·replace G := ift hb119 G
  refine ws fun K120 hK120 => ?_
  refine x_m J rfl fun U J => ?_
  refine x_m J rfl fun U J => ?_
  refine wn (hK120 _ _ ?_)
  refine wp_ret ?_
  replace X := X.pk 1 |>.pk 1
  replace X := obj66_mk (x := y113.2) X
  replace X := X.drop 1
  cases G
  refine hQ _ _ ?_
  refine lv Tryz.results27 J rfl ?_
  exact ⟨rfl, X⟩
 replace G := iff' hb119 G
 refine wp_skip ?_
 refine hK104 _ _ ?_
 refine wp_seq_k fun K121 hK121 => ?_
 refine ws fun K122 hK122 => ?_
 refine x_m J rfl fun U J => ?_
 refine x_m J rfl fun U J => ?_
 obtain ⟨y123, h124, G⟩ := bnd G
 refine x_call' en28 J (F_commit_file (L := blk g0 66 [.slice A115 n116 c117, .int .i64 y113.2.f1, .int .i64 y113.2.f2, .bool y113.2.f3, .int .i64 y113.2.f4] :: own2 kp72 (kI .u8) 5 (fun x : S72 => x.f1) 72 A115 n116 c117 y113.2.f0 :: own (kI .u8) 5 B110 m111 d112 y108 :: L) [115, 116, 97, 116, 101] a1 h124 X) (fun v U w hR J => ?_) rfl
 obtain ⟨rfl, X⟩ := hR
 refine x_m J rfl fun U J => ?_
 replace X := X.pk 1 |>.pk 1
 replace X := obj66_mk (x := y113.2) X
 obtain ⟨y125, h126, G⟩ := bnd G
 refine x_call' en47 J (F_commit_put (L := own (kI .u8) 5 B110 m111 d112 y108 :: L) y113.2 y123 a2 g0 A2 n2 c2 h126 (RdL.sfx 1 rfl ha2) X) (fun v U w hR J => ?_) rfl
 obtain ⟨rfl, X⟩ := hR
 obtain ⟨A127, n128, c129, X⟩ := obj66_open X
 refine x_m J rfl fun U J => ?_
 refine wn (hK122 _ _ ?_)
 refine ws fun K130 hK130 => ?_
 refine x_m J rfl fun U J => ?_
 refine x_v J (r_neI rfl (J.ev rfl) (J.ev rfl)) rfl fun U J => ?_
 refine wn (hK130 _ _ ?_)
 refine c_if J rfl (fun hb131 => ?_) fun hb131 => ?_
 ·replace G := ift hb131 G
  refine ws fun K132 hK132 => ?_
  refine x_m J rfl fun U J => ?_
  refine x_m J rfl fun U J => ?_
  refine wn (hK132 _ _ ?_)
  refine wp_ret ?_
  replace X := X.pk 1 |>.pk 1
  replace X := obj66_mk (x := y125.2) X
  replace X := X.drop 1
  cases G
  refine hQ _ _ ?_
  refine lv Tryz.results27 J rfl ?_
  exact ⟨rfl, X⟩
 replace G := iff' hb131 G
 refine wp_skip ?_
 refine hK121 _ _ ?_
 refine wp_seq_k fun K133 hK133 => ?_
 refine ws fun K134 hK134 => ?_
 refine x_m J rfl fun U J => ?_
 refine x_m J rfl fun U J => ?_
 replace X := SH.nil_own (d := (kI .u8)) (e := 5) X
 obtain ⟨y135, h136, G⟩ := bnd G
 refine x_call' en50 J (F_column_Uint (L := blk g0 66 [.slice A127 n128 c129, .int .i64 y125.2.f1, .int .i64 y125.2.f2, .bool y125.2.f3, .int .i64 y125.2.f4] :: own2 kp72 (kI .u8) 5 (fun x : S72 => x.f1) 72 A127 n128 c129 y125.2.f0 :: own (kI .u8) 5 B110 m111 d112 y108 :: L) [] a1 none 0 0 h136 X) (fun v U w hR J => ?_) rfl
 obtain ⟨B137, m138, d139, rfl, X⟩ := hR
 replace X := SH.nil_own (d := (kI .u8)) (e := 5) X
 obtain ⟨y140, h141, G⟩ := bnd G
 refine x_call' en49 J (F_page_Lay (L := own (kI .u8) 5 B137 m138 d139 y135 :: blk g0 66 [.slice A127 n128 c129, .int .i64 y125.2.f1, .int .i64 y125.2.f2, .bool y125.2.f3, .int .i64 y125.2.f4] :: own2 kp72 (kI .u8) 5 (fun x : S72 => x.f1) 72 A127 n128 c129 y125.2.f0 :: own (kI .u8) 5 B110 m111 d112 y108 :: L) [] 109 y135 none 0 0 B137 m138 d139 h141 (qz + 4) hZ (RdL.own 0 rfl (X.dropN 1)) hG0 X) (fun v U w hR J => ?_) rfl
 obtain ⟨B142, m143, d144, rfl, X⟩ := hR
 replace X := X.pk 3 |>.pk 3
 replace X := obj66_mk (x := y125.2) X
 obtain ⟨y145, h146, G⟩ := bnd G
 refine x_call' en47 J (F_commit_put (L := own (kI .u8) 5 B142 m143 d144 y140 :: own (kI .u8) 5 B137 m138 d139 y135 :: own (kI .u8) 5 B110 m111 d112 y108 :: L) y125.2 [109, 97, 110, 46, 116, 109, 112] y140 g0 B142 m143 d144 h146 (RdL.own 0 rfl (X.dropN 1)) X) (fun v U w hR J => ?_) rfl
 obtain ⟨rfl, X⟩ := hR
 obtain ⟨A147, n148, c149, X⟩ := obj66_open X
 refine x_m J rfl fun U J => ?_
 refine wn (hK134 _ _ ?_)
 refine ws fun K150 hK150 => ?_
 refine x_m J rfl fun U J => ?_
 refine x_v J (r_neI rfl (J.ev rfl) (J.ev rfl)) rfl fun U J => ?_
 refine wn (hK150 _ _ ?_)
 refine c_if J rfl (fun hb151 => ?_) fun hb151 => ?_
 ·replace G := ift hb151 G
  refine ws fun K152 hK152 => ?_
  refine x_m J rfl fun U J => ?_
  refine x_m J rfl fun U J => ?_
  refine wn (hK152 _ _ ?_)
  refine wp_ret ?_
  replace X := X.pk 1 |>.pk 1
  replace X := obj66_mk (x := y145.2) X
  replace X := X.drop 1 |>.drop 1 |>.drop 1
  cases G
  refine hQ _ _ ?_
  refine lv Tryz.results27 J rfl ?_
  exact ⟨rfl, X⟩
 replace G := iff' hb151 G
 refine wp_skip ?_
 refine hK133 _ _ ?_
 refine ws fun K153 hK153 => ?_
 refine x_m J rfl fun U J => ?_
 replace X := X.pk 1 |>.pk 1
 replace X := obj66_mk (x := y145.2) X
 replace X := SH.optS X
 obtain ⟨y154, h155, G⟩ := bnd G
 refine x_call' en51 J (F_files_Store_Rename (L := own (kI .u8) 5 B142 m143 d144 y140 :: own (kI .u8) 5 B137 m138 d139 y135 :: own (kI .u8) 5 B110 m111 d112 y108 :: L) (some y145.2) [109, 97, 110, 46, 116, 109, 112] [109, 97, 110] (some ⟨g0, 0, none⟩) h155 X) (fun v U w hR J => ?_) rfl
 obtain ⟨rfl, X⟩ := hR
 obtain ⟨o156, h157, G⟩ := bnd G
 rw [h157] at X
 replace X := SH.unoptP X
 obtain ⟨A158, n159, c160, X⟩ := obj66_open X
 refine x_m J rfl fun U J => ?_
 refine wn (hK153 _ _ ?_)
 refine wp_ret ?_
 replace X := X.pk 1 |>.pk 1
 replace X := obj66_mk (x := o156) X
 replace X := X.drop 1 |>.drop 1 |>.drop 1
 cases G
 refine hQ _ _ ?_
 refine lv Tryz.results27 J rfl ?_
 exact ⟨rfl, X⟩
theorem F_commit_Put {r : World} {L : List HP} {w : World} {Z : Nat → Prop} {wz : World} (a0 : (Option S66)) (a1 : Int) (a2 : (List Int)) (a3 : (List S63)) (p0 : Option Addr) (A2 : Option Addr) (n2 : Nat) (c2 : Nat) (A3 : Option Addr) (n3 : Nat) (c3 : Nat) {y : (Int × (Option S66))} (G : commit_Put a0 a1 a2 a3 = some y) (ha2 : Imm Z wz (kI .u8) A2 n2 c2 a2) (ha3 : Imm Z wz k63 A3 n3 c3 a3) (hG0 : Imm Z wz (kI .u32) (some ⟨0, 0, none⟩) 16 16 gl_page_table) (hG1 : Gc Z wz 1 isI64) (hG2 : Gc Z wz 2 isEr) (hG3 : Gc Z wz 3 isEr) (X : SH r (optP (obj66) p0 a0 :: zone Z wz :: L) w) :
  Ret Tryz.prog 11 #[.pointer p0, .int .u64 a1, .slice A2 n2 c2, .slice A3 n3 c3] w fun v w' => ∃ (Z' : Nat → Prop) (wz' : World), v = .int .i64 y.1 ∧ Sub Z wz Z' wz' ∧ SH r (optP (obj66) p0 y.2 :: zone Z' wz' :: L) w' := by
 refine enter Tryz.func11 rfl Tryz.ntmps11 [(0, .pointer p0), (1, .int .u64 a1), (2, .slice A2 n2 c2), (3, .slice A3 n3 c3)] rfl (by simp) ?_
 intro U J Qf hQ hQn
 unfold commit_Put at G
 cases a0 with
 | none =>
  have hU := SH.unoptN X
  clear X
  obtain ⟨rfl, X⟩ := hU
  refine ws fun K100 hK100 => ?_
  refine x_m J rfl fun U J => ?_
  refine wn (hK100 _ _ ?_)
  refine wp_seq_k fun K101 hK101 => ?_
  refine ws fun K102 hK102 => ?_
  refine x_m J rfl fun U J => ?_
  refine x_v (v := .bool true) J (r_eqNilP (p := none) uu24 rfl (J.ev rfl) (J.ev rfl)) rfl fun U J => ?_
  refine wn (hK102 _ _ ?_)
  refine c_t (b := true) rfl J ?_ rfl
  refine ws fun K103 hK103 => ?_
  refine x_m J rfl fun U J => ?_
  refine wn (hK103 _ _ ?_)
  refine wp_ret ?_
  replace X := SH.optN (obj66) X
  replace X := X.pk 1 |>.pk 1
  cases G
  refine hQ _ _ ?_
  refine lv Tryz.results11 J rfl ?_
  exact ⟨Z, wz, rfl, (Sub.refl _ _), X⟩
 | some x104 =>
  have hU := SH.unoptS X
  clear X
  obtain ⟨g105, rfl, X⟩ := hU
  obtain ⟨A106, n107, c108, X⟩ := obj66_open X
  refine ws fun K109 hK109 => ?_
  refine x_m J rfl fun U J => ?_
  refine wn (hK109 _ _ ?_)
  refine wp_seq_k fun K110 hK110 => ?_
  refine ws fun K111 hK111 => ?_
  refine x_m J rfl fun U J => ?_
  refine x_v (v := .bool false) J (r_eqNilP (p := some ⟨g105, 0, none⟩) uu24 rfl (J.ev rfl) (J.ev rfl)) rfl fun U J => ?_
  refine wn (hK111 _ _ ?_)
  refine c_f (b := false) rfl J ?_ rfl
  refine wp_skip ?_
  refine hK110 _ _ ?_
  refine wp_seq_k fun K112 hK112 => ?_
  refine wp_seq_k fun K113 hK113 => ?_
  have hj1 : ∀ (b114 : Bool), commit_Put_j1 a1 a2 a3 x104 b114 = some y → ∀ (U : Act) (w : World), FR 60 [] U [(0, (pP g105)), (1, .int .u64 a1), (2, .slice A2 n2 c2), (3, .slice A3 n3 c3), (18, .bool b114)] → SH r (blk g105 66 [.slice A106 n107 c108, .int .i64 x104.f1, .int .i64 x104.f2, .bool x104.f3, .int .i64 x104.f4] :: own2 kp72 (kI .u8) 5 (fun x : S72 => x.f1) 72 A106 n107 c108 x104.f0 :: zone Z wz :: L) w → K113 U w := by
   intro b114 G U w J X
   unfold commit_Put_j1 at G
   refine hK113 _ _ ?_
   refine c_if J rfl (fun hb115 => ?_) fun hb115 => ?_
   ·replace G := ift hb115 G
    refine ws fun K116 hK116 => ?_
    refine x_m J rfl fun U J => ?_
    refine wn (hK116 _ _ ?_)
    refine wp_ret ?_
    replace X := X.pk 1 |>.pk 1
    replace X := obj66_mk (x := x104) X
    replace X := SH.optS X
    replace X := X.pk 1 |>.pk 1
    cases G
    refine hQ _ _ ?_
    refine lv Tryz.results11 J rfl ?_
    exact ⟨Z, wz, rfl, (Sub.refl _ _), X⟩
   replace G := iff' hb115 G
   refine wp_skip ?_
   refine hK112 _ _ ?_
   refine ws fun K117 hK117 => ?_
   refine x_m J rfl fun U J => ?_
   replace X := X.pk 1 |>.pk 1
   replace X := obj66_mk (x := x104) X
   replace X := X.pk 1 |>.pk 1
   obtain ⟨y118, h119, G⟩ := bnd G
   refine x_call' en25 J (F_commit_last (L := L) x104 g105 h119 hG0 X) (fun v U w hR J => ?_) rfl
   obtain ⟨Z120, wz121, rfl, h122, X⟩ := hR
   have h123 := Imm.sub ha2 h122
   have h124 := Imm.sub ha3 h122
   obtain ⟨A125, n126, c127, X⟩ := obj66_open X
   refine x_m J rfl fun U J => ?_
   refine x_v J (r_extract rfl (J.ev rfl) rfl) rfl fun U J => ?_
   refine x_v J (r_extract rfl (J.ev rfl) rfl) rfl fun U J => ?_
   refine x_m J rfl fun U J => ?_
   refine x_m J rfl fun U J => ?_
   refine wn (hK117 _ _ ?_)
   refine wp_seq_k fun K128 hK128 => ?_
   have hj2 : ∀ (x129 : Int), commit_Put_j2 a1 a2 a3 y118 x129 = some y → ∀ (U : Act) (w : World), FR 60 [] U [(0, (pP g105)), (1, .int .u64 a1), (2, .slice A2 n2 c2), (3, .slice A3 n3 c3), (9, .int .u64 y118.1), (10, .int .i64 x129)] → SH r (blk g105 66 [.slice A125 n126 c127, .int .i64 y118.2.2.f1, .int .i64 y118.2.2.f2, .bool y118.2.2.f3, .int .i64 y118.2.2.f4] :: own2 kp72 (kI .u8) 5 (fun x : S72 => x.f1) 72 A125 n126 c127 y118.2.2.f0 :: zone Z120 wz121 :: L) w → K128 U w := by
    intro x129 G U w J X
    unfold commit_Put_j2 at G
    refine hK128 _ _ ?_
    refine wp_seq_k fun K130 hK130 => ?_
    have hj3 : ∀ (l131 : (List S72)) (x132 : Int) (x133 : Int) (b134 : Bool) (x135 : Int) (x136 : Int), commit_Put_j3 a1 a2 a3 y118 l131 x132 x133 b134 x135 x136 = some y → ∀ (A137 : Option Addr) (n138 : Nat) (c139 : Nat) (U : Act) (w : World), FR 60 [] U [(0, (pP g105)), (1, .int .u64 a1), (2, .slice A2 n2 c2), (3, .slice A3 n3 c3), (9, .int .u64 y118.1), (10, .int .i64 x136)] → SH r (blk g105 66 [.slice A137 n138 c139, .int .i64 x132, .int .i64 x133, .bool b134, .int .i64 x135] :: own2 kp72 (kI .u8) 5 (fun x : S72 => x.f1) 72 A137 n138 c139 l131 :: zone Z120 wz121 :: L) w → K130 U w := by
     intro l131 x132 x133 b134 x135 x136 G A137 n138 c139 U w J X
     unfold commit_Put_j3 at G
     refine hK130 _ _ ?_
     refine wp_seq_k fun K140 hK140 => ?_
     have hj4 : ∀ (l141 : (List S72)) (x142 : Int) (x143 : Int) (b144 : Bool) (x145 : Int) (x146 : Int), commit_Put_j4 a1 y118 l141 x142 x143 b144 x145 x146 = some y → ∀ (A147 : Option Addr) (n148 : Nat) (c149 : Nat) (U : Act) (w : World), FR 60 [] U [(0, (pP g105)), (1, .int .u64 a1), (9, .int .u64 y118.1), (10, .int .i64 x146)] → SH r (blk g105 66 [.slice A147 n148 c149, .int .i64 x142, .int .i64 x143, .bool b144, .int .i64 x145] :: own2 kp72 (kI .u8) 5 (fun x : S72 => x.f1) 72 A147 n148 c149 l141 :: zone Z120 wz121 :: L) w → K140 U w := by
      intro l141 x142 x143 b144 x145 x146 G A147 n148 c149 U w J X
      unfold commit_Put_j4 at G
      refine hK140 _ _ ?_
      refine wp_seq_k fun K150 hK150 => ?_
      refine wp_seq_k fun K151 hK151 => ?_
      have hj5 : ∀ (b152 : Bool), commit_Put_j5 a1 y118 l141 x142 x143 b144 x145 x146 b152 = some y → ∀ (U : Act) (w : World), FR 60 [] U [(0, (pP g105)), (1, .int .u64 a1), (9, .int .u64 y118.1), (10, .int .i64 x146), (49, .bool b152)] → SH r (blk g105 66 [.slice A147 n148 c149, .int .i64 x142, .int .i64 x143, .bool b144, .int .i64 x145] :: own2 kp72 (kI .u8) 5 (fun x : S72 => x.f1) 72 A147 n148 c149 l141 :: zone Z120 wz121 :: L) w → K151 U w := by
       intro b152 G U w J X
       unfold commit_Put_j5 at G
       refine hK151 _ _ ?_
       refine c_if J rfl (fun hb153 => ?_) fun hb153 => ?_
       ·replace G := ift hb153 G
        refine ws fun K154 hK154 => ?_
        refine x_m J rfl fun U J => ?_
        refine x_m J rfl fun U J => ?_
        replace X := X.pk 1 |>.pk 1
        replace X := obj66_mk (x := (⟨l141, x142, x143, b144, x145⟩ : S66)) X
        obtain ⟨y155, h156, G⟩ := bnd G
        refine x_call' en26 J (F_commit_sweep (L := zone Z120 wz121 :: L) (⟨l141, x142, x143, b144, x145⟩ : S66) y118.1 g105 h156 0 rfl (Gc.sub hG1 h122) (Gc.sub hG2 h122) (Gc.sub hG3 h122) X) (fun v U w hR J => ?_) rfl
        obtain ⟨rfl, X⟩ := hR
        obtain ⟨A157, n158, c159, X⟩ := obj66_open X
        refine wn (hK154 _ _ ?_)
        refine ws fun K160 hK160 => ?_
        refine x_m J rfl fun U J => ?_
        refine x_m J rfl fun U J => ?_
        refine wn (hK160 _ _ ?_)
        refine wp_ret ?_
        replace X := X.pk 1 |>.pk 1
        replace X := obj66_mk (x := y155.2) X
        replace X := SH.optS X
        replace X := X.pk 1 |>.pk 1
        cases G
        refine hQ _ _ ?_
        refine lv Tryz.results11 J rfl ?_
        exact ⟨Z120, wz121, rfl, h122, X⟩
       replace G := iff' hb153 G
       refine wp_skip ?_
       refine hK150 _ _ ?_
       refine wp_seq_k fun K161 hK161 => ?_
       refine ws fun K162 hK162 => ?_
       refine x_m J rfl fun U J => ?_
       refine x_v J (r_eqI rfl (J.ev rfl) (J.ev rfl)) rfl fun U J => ?_
       refine wn (hK162 _ _ ?_)
       refine c_if J rfl (fun hb163 => ?_) fun hb163 => ?_
       ·replace G := ift hb163 G
        refine ws fun K164 hK164 => ?_
        refine x_m J rfl fun U J => ?_
        refine x_m J rfl fun U J => ?_
        replace X := X.pk 1 |>.pk 1
        replace X := obj66_mk (x := (⟨l141, x142, x143, b144, x145⟩ : S66)) X
        obtain ⟨y165, h166, G⟩ := bnd G
        refine x_call' en26 J (F_commit_sweep (L := zone Z120 wz121 :: L) (⟨l141, x142, x143, b144, x145⟩ : S66) a1 g105 h166 0 rfl (Gc.sub hG1 h122) (Gc.sub hG2 h122) (Gc.sub hG3 h122) X) (fun v U w hR J => ?_) rfl
        obtain ⟨rfl, X⟩ := hR
        obtain ⟨A167, n168, c169, X⟩ := obj66_open X
        refine x_m J rfl fun U J => ?_
        refine wn (hK164 _ _ ?_)
        refine wp_ret ?_
        replace X := X.pk 1 |>.pk 1
        replace X := obj66_mk (x := y165.2) X
        replace X := SH.optS X
        replace X := X.pk 1 |>.pk 1
        cases G
        refine hQ _ _ ?_
        refine lv Tryz.results11 J rfl ?_
        exact ⟨Z120, wz121, rfl, h122, X⟩
       replace G := iff' hb163 G
       refine wp_skip ?_
       refine hK161 _ _ ?_
       refine ws fun K170 hK170 => ?_
       refine x_m J rfl fun U J => ?_
       refine x_m J rfl fun U J => ?_
       refine wn (hK170 _ _ ?_)
       refine wp_ret ?_
       replace X := X.pk 1 |>.pk 1
       replace X := obj66_mk (x := (⟨l141, x142, x143, b144, x145⟩ : S66)) X
       replace X := SH.optS X
       replace X := X.pk 1 |>.pk 1
       cases G
       refine hQ _ _ ?_
       refine lv Tryz.results11 J rfl ?_
       exact ⟨Z120, wz121, rfl, h122, X⟩
      refine wp_reg ?_
      refine x_m J rfl fun U J => ?_
      refine x_v J (r_neI rfl (J.ev rfl) (J.ev rfl)) rfl fun U J => ?_
      refine x_m J rfl fun U J => ?_
      refine bcase (b := x146 != 0) (fun hb171 => ?_) fun hb171 => ?_
      ·replace G := ift hb171 G
       refine x_on' hb171 J ?_ rfl
       refine x_m J rfl fun U J => ?_
       refine x_on' hb171 J ?_ rfl
       refine x_v J (r_neI rfl (J.ev rfl) (J.ev rfl)) rfl fun U J => ?_
       refine x_pickt' hb171 J (fun U J => ?_) rfl
       refine wpList_nil ?_
       exact hj5 (x146 != 9) G U w (J.sub _ rfl) X
      replace G := iff' hb171 G
      refine xO 2 hb171 J rfl fun U J => ?_
      refine x_pickf' hb171 J (fun U J => ?_) rfl
      refine wpList_nil ?_
      exact hj5 false G U w (J.sub _ rfl) X
     refine ws fun K172 hK172 => ?_
     refine x_m J rfl fun U J => ?_
     refine x_v J (r_eqI rfl (J.ev rfl) (J.ev rfl)) rfl fun U J => ?_
     refine wn (hK172 _ _ ?_)
     refine c_if J rfl (fun hb173 => ?_) fun hb173 => ?_
     ·replace G := ift hb173 G
      refine wp_reg ?_
      refine x_m J rfl fun U J => ?_
      refine x_m J rfl fun U J => ?_
      refine x_m J rfl fun U J => ?_
      refine x_m J rfl fun U J => ?_
      replace X := X.pk 1 |>.pk 1
      replace X := obj66_mk (x := (⟨l131, x132, x133, b134, x135⟩ : S66)) X
      obtain ⟨y174, h175, G⟩ := bnd G
      refine x_call' en27 J (F_commit_write (L := zone Z120 wz121 :: L) (⟨l131, x132, x133, b134, x135⟩ : S66) a1 a2 a3 g105 A2 n2 c2 A3 n3 c3 h175 0 rfl (h123.rdl 0 rfl) (h124.rdl 0 rfl) (Imm.sub hG0 h122) X) (fun v U w hR J => ?_) rfl
      obtain ⟨rfl, X⟩ := hR
      obtain ⟨A176, n177, c178, X⟩ := obj66_open X
      refine x_m J rfl fun U J => ?_
      refine wpList_nil ?_
      exact hj4 y174.2.f0 y174.2.f1 y174.2.f2 y174.2.f3 y174.2.f4 y174.1 G A176 n177 c178 U w (J.sub _ rfl) X
     replace G := iff' hb173 G
     refine wp_skip ?_
     exact hj4 l131 x132 x133 b134 x135 x136 G A137 n138 c139 U w (J.sub _ rfl) X
    refine ws fun K179 hK179 => ?_
    refine x_m J rfl fun U J => ?_
    refine x_v J (r_eqI rfl (J.ev rfl) (J.ev rfl)) rfl fun U J => ?_
    refine wn (hK179 _ _ ?_)
    refine c_if J rfl (fun hb180 => ?_) fun hb180 => ?_
    ·replace G := ift hb180 G
     refine wp_reg ?_
     refine x_m J rfl fun U J => ?_
     refine x_m J rfl fun U J => ?_
     replace X := X.pk 1 |>.pk 1
     replace X := obj66_mk (x := y118.2.2) X
     obtain ⟨y181, h182, G⟩ := bnd G
     refine x_call' en26 J (F_commit_sweep (L := zone Z120 wz121 :: L) y118.2.2 y118.1 g105 h182 0 rfl (Gc.sub hG1 h122) (Gc.sub hG2 h122) (Gc.sub hG3 h122) X) (fun v U w hR J => ?_) rfl
     obtain ⟨rfl, X⟩ := hR
     obtain ⟨A183, n184, c185, X⟩ := obj66_open X
     refine x_m J rfl fun U J => ?_
     refine wpList_nil ?_
     exact hj3 y181.2.f0 y181.2.f1 y181.2.f2 y181.2.f3 y181.2.f4 y181.1 G A183 n184 c185 U w (J.sub _ rfl) X
    replace G := iff' hb180 G
    refine wp_skip ?_
    exact hj3 y118.2.2.f0 y118.2.2.f1 y118.2.2.f2 y118.2.2.f3 y118.2.2.f4 x129 G A125 n126 c127 U w (J.sub _ rfl) X
   refine wp_seq_k fun K186 hK186 => ?_
   have hj6 : ∀ (b187 : Bool), commit_Put_j6 a1 a2 a3 y118 b187 = some y → ∀ (U : Act) (w : World), FR 60 [] U [(0, (pP g105)), (1, .int .u64 a1), (2, .slice A2 n2 c2), (3, .slice A3 n3 c3), (9, .int .u64 y118.1), (10, .int .i64 y118.2.1), (31, .bool b187)] → SH r (blk g105 66 [.slice A125 n126 c127, .int .i64 y118.2.2.f1, .int .i64 y118.2.2.f2, .bool y118.2.2.f3, .int .i64 y118.2.2.f4] :: own2 kp72 (kI .u8) 5 (fun x : S72 => x.f1) 72 A125 n126 c127 y118.2.2.f0 :: zone Z120 wz121 :: L) w → K186 U w := by
    intro b187 G U w J X
    unfold commit_Put_j6 at G
    refine hK186 _ _ ?_
    refine c_if J rfl (fun hb188 => ?_) fun hb188 => ?_
    ·replace G := ift hb188 G
     refine wp_reg ?_
     refine x_m J rfl fun U J => ?_
     refine wpList_nil ?_
     exact hj2 7 G U w (J.sub _ rfl) X
    replace G := iff' hb188 G
    refine wp_skip ?_
    exact hj2 y118.2.1 G U w (J.sub _ rfl) X
   refine wp_reg ?_
   refine x_m J rfl fun U J => ?_
   refine x_v J (r_eqI rfl (J.ev rfl) (J.ev rfl)) rfl fun U J => ?_
   refine x_m J rfl fun U J => ?_
   refine bcase (b := y118.2.1 == 0) (fun hb189 => ?_) fun hb189 => ?_
   ·replace G := ift hb189 G
    refine x_on' hb189 J ?_ rfl
    refine x_m J rfl fun U J => ?_
    refine x_on' hb189 J ?_ rfl
    refine x_m J rfl fun U J => ?_
    refine x_on' hb189 J ?_ rfl
    obtain ⟨x190, h191, G⟩ := ltt_ G
    refine x_v (v := .int .u64 x190) J (rv_i h191 (r_sub rfl (J.ev rfl) (J.ev rfl))) rfl fun U J => ?_
    refine x_on' hb189 J ?_ rfl
    refine x_v J (r_neI rfl (J.ev rfl) (J.ev rfl)) rfl fun U J => ?_
    refine x_pickt' hb189 J (fun U J => ?_) rfl
    refine wpList_nil ?_
    exact hj6 (y118.1 != x190) G U w (J.sub _ rfl) X
   replace G := iff' hb189 G
   refine xO 4 hb189 J rfl fun U J => ?_
   refine x_pickf' hb189 J (fun U J => ?_) rfl
   refine wpList_nil ?_
   exact hj6 false G U w (J.sub _ rfl) X
  refine wp_reg ?_
  refine x_m J rfl fun U J => ?_
  refine x_v J (r_ltI rfl (J.ev rfl) (J.ev rfl)) rfl fun U J => ?_
  refine x_m J rfl fun U J => ?_
  refine bcase (b := decide (a1 < 1)) (fun hb192 => ?_) fun hb192 => ?_
  ·replace G := ift hb192 G
   refine xO 2 hb192 J rfl fun U J => ?_
   refine x_pickt' hb192 J (fun U J => ?_) rfl
   refine wpList_nil ?_
   exact hj1 true G U w (J.sub _ rfl) X
  replace G := iff' hb192 G
  refine x_on' hb192 J ?_ rfl
  refine x_m J rfl fun U J => ?_
  refine x_on' hb192 J ?_ rfl
  refine x_v J (r_gtI rfl (J.ev rfl) (J.ev rfl)) rfl fun U J => ?_
  refine x_pickf' hb192 J (fun U J => ?_) rfl
  refine wpList_nil ?_
  exact hj1 (decide (125 < a1)) G U w (J.sub _ rfl) X
theorem F_commit_Recover {r : World} {L : List HP} {w : World} {Z : Nat → Prop} {wz : World} (a0 : (Option S66)) (p0 : Option Addr) {y : (Int × (List Int) × (List S63) × Int × (Option S66))} (G : commit_Recover a0 = some y) (hG0 : Imm Z wz (kI .u32) (some ⟨0, 0, none⟩) 16 16 gl_page_table) (hG1 : Gc Z wz 1 isI64) (hG2 : Gc Z wz 2 isEr) (hG3 : Gc Z wz 3 isEr) (X : SH r (optP (obj66) p0 a0 :: zone Z wz :: L) w) :
  Ret Tryz.prog 12 #[.pointer p0] w fun v w' => ∃ (Z' : Nat → Prop) (wz' : World) (B1 : Option Addr) (m1 : Nat) (d1 : Nat) (B2 : Option Addr) (m2 : Nat) (d2 : Nat), v = .tuple #[(.int .u64 y.1), (.slice B1 m1 d1), (.slice B2 m2 d2), (.int .i64 y.2.2.2.1)] ∧ Sub Z wz Z' wz' ∧ SH r (own (kI .u8) 5 B1 m1 d1 y.2.1 :: own k63 63 B2 m2 d2 y.2.2.1 :: optP (obj66) p0 y.2.2.2.2 :: zone Z' wz' :: L) w' := by
 refine enter Tryz.func12 rfl Tryz.ntmps12 [(0, .pointer p0)] rfl (by simp) ?_
 intro U J Qf hQ hQn
 unfold commit_Recover at G
 cases a0 with
 | none =>
  have hU := SH.unoptN X
  clear X
  obtain ⟨rfl, X⟩ := hU
  refine ws fun K100 hK100 => ?_
  refine x_m J rfl fun U J => ?_
  refine x_m J rfl fun U J => ?_
  refine x_m J rfl fun U J => ?_
  refine x_m J rfl fun U J => ?_
  refine wn (hK100 _ _ ?_)
  refine wp_seq_k fun K101 hK101 => ?_
  refine ws fun K102 hK102 => ?_
  refine x_m J rfl fun U J => ?_
  refine x_v (v := .bool true) J (r_eqNilP (p := none) uu24 rfl (J.ev rfl) (J.ev rfl)) rfl fun U J => ?_
  refine wn (hK102 _ _ ?_)
  refine c_t (b := true) rfl J ?_ rfl
  refine ws fun K103 hK103 => ?_
  refine x_m J rfl fun U J => ?_
  refine x_m J rfl fun U J => ?_
  refine x_m J rfl fun U J => ?_
  refine x_m J rfl fun U J => ?_
  refine wn (hK103 _ _ ?_)
  refine wp_ret ?_
  replace X := SH.nil_own (d := (kI .u8)) (e := 5) X
  replace X := SH.nil_own (d := k63) (e := 63) X
  replace X := SH.optN (obj66) X
  replace X := X.pk 3 |>.pk 1 |>.pk 2 |>.pk 3
  cases G
  refine hQ _ _ ?_
  refine lv4 Tryz.results12 J rfl rfl rfl rfl ?_
  exact ⟨Z, wz, none, 0, 0, none, 0, 0, rfl, (Sub.refl _ _), X⟩
 | some x104 =>
  have hU := SH.unoptS X
  clear X
  obtain ⟨g105, rfl, X⟩ := hU
  obtain ⟨A106, n107, c108, X⟩ := obj66_open X
  refine ws fun K109 hK109 => ?_
  refine x_m J rfl fun U J => ?_
  refine x_m J rfl fun U J => ?_
  refine x_m J rfl fun U J => ?_
  refine x_m J rfl fun U J => ?_
  refine wn (hK109 _ _ ?_)
  refine wp_seq_k fun K110 hK110 => ?_
  refine ws fun K111 hK111 => ?_
  refine x_m J rfl fun U J => ?_
  refine x_v (v := .bool false) J (r_eqNilP (p := some ⟨g105, 0, none⟩) uu24 rfl (J.ev rfl) (J.ev rfl)) rfl fun U J => ?_
  refine wn (hK111 _ _ ?_)
  refine c_f (b := false) rfl J ?_ rfl
  refine wp_skip ?_
  refine hK110 _ _ ?_
  refine ws fun K112 hK112 => ?_
  refine x_m J rfl fun U J => ?_
  replace X := X.pk 1 |>.pk 1
  replace X := obj66_mk (x := x104) X
  replace X := X.pk 1 |>.pk 1
  obtain ⟨y113, h114, G⟩ := bnd G
  refine x_call' en25 J (F_commit_last (L := L) x104 g105 h114 hG0 X) (fun v U w hR J => ?_) rfl
  obtain ⟨Z115, wz116, rfl, h117, X⟩ := hR
  obtain ⟨A118, n119, c120, X⟩ := obj66_open X
  refine x_m J rfl fun U J => ?_
  refine x_v J (r_extract rfl (J.ev rfl) rfl) rfl fun U J => ?_
  refine x_v J (r_extract rfl (J.ev rfl) rfl) rfl fun U J => ?_
  refine x_m J rfl fun U J => ?_
  refine x_m J rfl fun U J => ?_
  refine wn (hK112 _ _ ?_)
  refine wp_seq_k fun K121 hK121 => ?_
  have hj1 : ∀ (l122 : (List S72)) (x123 : Int) (x124 : Int) (b125 : Bool) (x126 : Int) (x127 : Int), commit_Recover_j1 y113 l122 x123 x124 b125 x126 x127 = some y → ∀ (A128 : Option Addr) (n129 : Nat) (c130 : Nat) (U : Act) (w : World), FR 74 [] U [(0, (pP g105)), (6, .int .u64 y113.1), (7, .int .i64 x127)] → SH r (blk g105 66 [.slice A128 n129 c130, .int .i64 x123, .int .i64 x124, .bool b125, .int .i64 x126] :: own2 kp72 (kI .u8) 5 (fun x : S72 => x.f1) 72 A128 n129 c130 l122 :: zone Z115 wz116 :: L) w → K121 U w := by
   intro l122 x123 x124 b125 x126 x127 G A128 n129 c130 U w J X
   unfold commit_Recover_j1 at G
   refine hK121 _ _ ?_
   refine wp_seq_k fun K131 hK131 => ?_
   refine wp_seq_k fun K132 hK132 => ?_
   have hj2 : ∀ (b133 : Bool), commit_Recover_j2 y113 l122 x123 x124 b125 x126 x127 b133 = some y → ∀ (U : Act) (w : World), FR 74 [] U [(0, (pP g105)), (6, .int .u64 y113.1), (7, .int .i64 x127), (31, .bool b133)] → SH r (blk g105 66 [.slice A128 n129 c130, .int .i64 x123, .int .i64 x124, .bool b125, .int .i64 x126] :: own2 kp72 (kI .u8) 5 (fun x : S72 => x.f1) 72 A128 n129 c130 l122 :: zone Z115 wz116 :: L) w → K132 U w := by
    intro b133 G U w J X
    unfold commit_Recover_j2 at G
    refine hK132 _ _ ?_
    refine c_if J rfl (fun hb134 => ?_) fun hb134 => ?_
    ·replace G := ift hb134 G
     refine ws fun K135 hK135 => ?_
     refine x_m J rfl fun U J => ?_
     refine x_m J rfl fun U J => ?_
     refine x_m J rfl fun U J => ?_
     refine x_m J rfl fun U J => ?_
     refine x_m J rfl fun U J => ?_
     refine wn (hK135 _ _ ?_)
     refine wp_ret ?_
     replace X := SH.nil_own (d := (kI .u8)) (e := 5) X
     replace X := SH.nil_own (d := k63) (e := 63) X
     replace X := X.pk 3 |>.pk 3
     replace X := obj66_mk (x := (⟨l122, x123, x124, b125, x126⟩ : S66)) X
     replace X := SH.optS X
     replace X := X.pk 3 |>.pk 1 |>.pk 2 |>.pk 3
     cases G
     refine hQ _ _ ?_
     refine lv4 Tryz.results12 J rfl rfl rfl rfl ?_
     exact ⟨Z115, wz116, none, 0, 0, none, 0, 0, rfl, h117, X⟩
    replace G := iff' hb134 G
    refine wp_skip ?_
    refine hK131 _ _ ?_
    refine ws fun K136 hK136 => ?_
    refine x_m J rfl fun U J => ?_
    refine x_m J rfl fun U J => ?_
    obtain ⟨y137, h138, G⟩ := bnd G
    refine x_call' en28 J (F_commit_file (L := blk g105 66 [.slice A128 n129 c130, .int .i64 x123, .int .i64 x124, .bool b125, .int .i64 x126] :: own2 kp72 (kI .u8) 5 (fun x : S72 => x.f1) 72 A128 n129 c130 l122 :: zone Z115 wz116 :: L) [115, 116, 97, 116, 101] y113.1 h138 X) (fun v U w hR J => ?_) rfl
    obtain ⟨rfl, X⟩ := hR
    replace X := X.pk 1 |>.pk 1
    replace X := obj66_mk (x := (⟨l122, x123, x124, b125, x126⟩ : S66)) X
    replace X := SH.optS X
    obtain ⟨y139, h140, G⟩ := bnd G
    refine x_call' en17 J (F_files_Store_Read (L := zone Z115 wz116 :: L) (some (⟨l122, x123, x124, b125, x126⟩ : S66)) y137 (some ⟨g105, 0, none⟩) h140 X) (fun v U w hR J => ?_) rfl
    obtain ⟨B141, m142, d143, rfl, X⟩ := hR
    replace X := X.pk 1
    replace X := SH.unoptP X
    obtain ⟨A144, n145, c146, X⟩ := obj66_open X
    refine x_m J rfl fun U J => ?_
    refine x_v J (r_extract rfl (J.ev rfl) rfl) rfl fun U J => ?_
    refine x_v J (r_extract rfl (J.ev rfl) rfl) rfl fun U J => ?_
    refine x_m J rfl fun U J => ?_
    refine x_m J rfl fun U J => ?_
    refine wn (hK136 _ _ ?_)
    refine wp_seq_k fun K147 hK147 => ?_
    refine ws fun K148 hK148 => ?_
    refine x_m J rfl fun U J => ?_
    refine x_v J (r_neI rfl (J.ev rfl) (J.ev rfl)) rfl fun U J => ?_
    refine wn (hK148 _ _ ?_)
    refine c_if J rfl (fun hb149 => ?_) fun hb149 => ?_
    ·replace G := ift hb149 G
     refine ws fun K150 hK150 => ?_
     refine x_m J rfl fun U J => ?_
     obtain ⟨y151, h152, G⟩ := bnd G
     refine x_call' en29 J (F_commit_lost (L := blk g105 66 [.slice A144 n145 c146, .int .i64 ((⟨l122, x123, x124, b125, x126⟩ : S66).f1), .int .i64 ((⟨l122, x123, x124, b125, x126⟩ : S66).f2), .bool ((⟨l122, x123, x124, b125, x126⟩ : S66).f3), .int .i64 ((⟨l122, x123, x124, b125, x126⟩ : S66).f4)] :: own2 kp72 (kI .u8) 5 (fun x : S72 => x.f1) 72 A144 n145 c146 ((⟨l122, x123, x124, b125, x126⟩ : S66).f0) :: own (kI .u8) 5 B141 m142 d143 y139.1 :: zone Z115 wz116 :: L) y139.2 h152 X) (fun v U w hR J => ?_) rfl
     obtain ⟨rfl, X⟩ := hR
     refine x_m J rfl fun U J => ?_
     refine x_m J rfl fun U J => ?_
     refine x_m J rfl fun U J => ?_
     refine x_m J rfl fun U J => ?_
     refine wn (hK150 _ _ ?_)
     refine wp_ret ?_
     replace X := SH.nil_own (d := (kI .u8)) (e := 5) X
     replace X := SH.nil_own (d := k63) (e := 63) X
     replace X := X.pk 3 |>.pk 3
     replace X := obj66_mk (x := (⟨l122, x123, x124, b125, x126⟩ : S66)) X
     replace X := SH.optS X
     replace X := X.drop 3 |>.pk 3 |>.pk 1 |>.pk 2 |>.pk 3
     cases G
     refine hQ _ _ ?_
     refine lv4 Tryz.results12 J rfl rfl rfl rfl ?_
     exact ⟨Z115, wz116, none, 0, 0, none, 0, 0, rfl, h117, X⟩
    replace G := iff' hb149 G
    refine wp_skip ?_
    refine hK147 _ _ ?_
    refine ws fun K153 hK153 => ?_
    refine x_m J rfl fun U J => ?_
    refine wn (hK153 _ _ ?_)
    refine wp_seq_k fun K154 hK154 => ?_
    refine ws fun K155 hK155 => ?_
    refine x_m J rfl fun U J => ?_
    refine wn (hK155 _ _ ?_)
    refine wp_block_k fun Kx156 hKx156 => ?_
    have hb1 : ∀ (l157 : (List S63)), commit_Recover_b1 y113 l122 x123 x124 b125 x126 y139 l157 = some y → ∀ (Z158 : Nat → Prop) (wz159 : World) (A160 : Option Addr) (n161 : Nat) (c162 : Nat) (A163 : Option Addr) (n164 : Nat) (c165 : Nat) (h166 : Sub Z wz Z158 wz159) (U : Act) (w : World), FR 74 [] U [(0, (pP g105)), (6, .int .u64 y113.1), (8, .slice B141 m142 d143), (9, .slice A163 n164 c165)] → SH r (blk g105 66 [.slice A160 n161 c162, .int .i64 ((⟨l122, x123, x124, b125, x126⟩ : S66).f1), .int .i64 ((⟨l122, x123, x124, b125, x126⟩ : S66).f2), .bool ((⟨l122, x123, x124, b125, x126⟩ : S66).f3), .int .i64 ((⟨l122, x123, x124, b125, x126⟩ : S66).f4)] :: own2 kp72 (kI .u8) 5 (fun x : S72 => x.f1) 72 A160 n161 c162 ((⟨l122, x123, x124, b125, x126⟩ : S66).f0) :: own (kI .u8) 5 B141 m142 d143 y139.1 :: own k63 63 A163 n164 c165 l157 :: zone Z158 wz159 :: L) w → Kx156 U w := by
     intro l157 G Z158 wz159 A160 n161 c162 A163 n164 c165 h166 U w J X
     unfold commit_Recover_b1 at G
     refine hKx156 _ _ ?_
     refine hK154 _ _ ?_
     refine ws fun K167 hK167 => ?_
     refine x_m J rfl fun U J => ?_
     refine x_m J rfl fun U J => ?_
     refine x_m J rfl fun U J => ?_
     refine x_m J rfl fun U J => ?_
     refine x_m J rfl fun U J => ?_
     refine x_m J rfl fun U J => ?_
     refine x_m J rfl fun U J => ?_
     refine wn (hK167 _ _ ?_)
     refine wp_ret ?_
     replace X := X.pk 1 |>.pk 1
     replace X := obj66_mk (x := (⟨l122, x123, x124, b125, x126⟩ : S66)) X
     replace X := SH.optS X
     replace X := X.pk 3 |>.pk 1 |>.pk 3 |>.pk 3
     cases G
     refine hQ _ _ ?_
     refine lv4 Tryz.results12 J rfl rfl rfl rfl ?_
     exact ⟨Z158, wz159, B141, m142, d143, A163, n164, c165, rfl, h166, X⟩
    obtain ⟨t168, hl168, G⟩ := bnd G
    have hR168 := G
    have hx168_0 : ∀ (l169 : (List S63)), (.inl (l169)) = t168 → ∀ (Z170 : Nat → Prop) (wz171 : World) (A172 : Option Addr) (n173 : Nat) (c174 : Nat) (A175 : Option Addr) (n176 : Nat) (c168 : Nat) (h177 : Sub Z wz Z170 wz171) (U : Act) (w : World), FR 74 [] U [(0, (pP g105)), (6, .int .u64 y113.1), (8, .slice B141 m142 d143), (9, .slice A175 n176 c168)] → SH r (blk g105 66 [.slice A172 n173 c174, .int .i64 ((⟨l122, x123, x124, b125, x126⟩ : S66).f1), .int .i64 ((⟨l122, x123, x124, b125, x126⟩ : S66).f2), .bool ((⟨l122, x123, x124, b125, x126⟩ : S66).f3), .int .i64 ((⟨l122, x123, x124, b125, x126⟩ : S66).f4)] :: own2 kp72 (kI .u8) 5 (fun x : S72 => x.f1) 72 A172 n173 c174 ((⟨l122, x123, x124, b125, x126⟩ : S66).f0) :: own (kI .u8) 5 B141 m142 d143 y139.1 :: own k63 63 A175 n176 c168 l169 :: zone Z170 wz171 :: L) w → Kx156 U w := by
     intro l169 ht Z170 wz171 A172 n173 c174 A175 n176 c168 h177 U w J X
     subst ht
     replace G : commit_Recover_x1_0 y113 l122 x123 x124 b125 x126 y139 l169 = some y := G
     unfold commit_Recover_x1_0 at G
     exact hb1 l169 G Z170 wz171 A172 n173 c174 A175 n176 c168 h177 U w (J.sub _ rfl) X
    replace X := SH.nil_own (d := k63) (e := 63) X
    replace X := X.pk 4 |>.pk 1 |>.pk 4 |>.pk 4 |>.pk 4
    refine wp_loop_fn hl168 (fun s U w => ∃ (Z178 : Nat → Prop) (wz179 : World) (A180 : Option Addr) (n181 : Nat) (c182 : Nat) (A183 : Option Addr) (n184 : Nat) (c185 : Nat), Sub Z wz Z178 wz179 ∧ FR 74 [] U [(0, (pP g105)), (6, .int .u64 y113.1), (8, .slice B141 m142 d143), (9, .slice A183 n184 c185), (10, .int .u64 s.2)] ∧ SH r (blk g105 66 [.slice A180 n181 c182, .int .i64 ((⟨l122, x123, x124, b125, x126⟩ : S66).f1), .int .i64 ((⟨l122, x123, x124, b125, x126⟩ : S66).f2), .bool ((⟨l122, x123, x124, b125, x126⟩ : S66).f3), .int .i64 ((⟨l122, x123, x124, b125, x126⟩ : S66).f4)] :: own2 kp72 (kI .u8) 5 (fun x : S72 => x.f1) 72 A180 n181 c182 ((⟨l122, x123, x124, b125, x126⟩ : S66).f0) :: own (kI .u8) 5 B141 m142 d143 y139.1 :: own k63 63 A183 n184 c185 s.1 :: zone Z178 wz179 :: L) w) ⟨Z115, wz116, A144, n145, c146, none, 0, 0, h117, J.sub _ rfl, X⟩ ?_
    intro N168 s168 o168 G N168_ T168_ U w hLab
    obtain ⟨l186, x187⟩ := s168
    replace G : commit_Recover_l1 y113 l122 x123 x124 b125 x126 l186 x187 = some o168 := G
    unfold commit_Recover_l1 at G
    try dsimp only at hLab
    obtain ⟨Z178, wz179, A180, n181, c182, A183, n184, c185, h188, J, X⟩ := hLab
    refine wp_seq_k fun K189 hK189 => ?_
    refine ws fun K190 hK190 => ?_
    refine x_m J rfl fun U J => ?_
    refine x_m J rfl fun U J => ?_
    refine x_v J (r_leI rfl (J.ev rfl) (J.ev rfl)) rfl fun U J => ?_
    refine wn (hK190 _ _ ?_)
    refine c_if J rfl (fun hb191 => ?_) fun hb191 => ?_
    ·replace G := ift hb191 G
     refine wp_skip ?_
     refine hK189 _ _ ?_
     refine wp_seq_k fun K192 hK192 => ?_
     refine wp_block_k fun Kx193 hKx193 => ?_
     refine ws fun K194 hK194 => ?_
     refine x_m J rfl fun U J => ?_
     refine x_m J rfl fun U J => ?_
     obtain ⟨y195, h196, G⟩ := bnd G
     refine x_call' en28 J (F_commit_file (L := blk g105 66 [.slice A180 n181 c182, .int .i64 ((⟨l122, x123, x124, b125, x126⟩ : S66).f1), .int .i64 ((⟨l122, x123, x124, b125, x126⟩ : S66).f2), .bool ((⟨l122, x123, x124, b125, x126⟩ : S66).f3), .int .i64 ((⟨l122, x123, x124, b125, x126⟩ : S66).f4)] :: own2 kp72 (kI .u8) 5 (fun x : S72 => x.f1) 72 A180 n181 c182 ((⟨l122, x123, x124, b125, x126⟩ : S66).f0) :: own (kI .u8) 5 B141 m142 d143 y139.1 :: own k63 63 A183 n184 c185 l186 :: zone Z178 wz179 :: L) [111, 117, 116] x187 h196 X) (fun v U w hR J => ?_) rfl
     obtain ⟨rfl, X⟩ := hR
     replace X := X.pk 1 |>.pk 1
     replace X := obj66_mk (x := (⟨l122, x123, x124, b125, x126⟩ : S66)) X
     replace X := SH.optS X
     obtain ⟨y197, h198, G⟩ := bnd G
     refine x_call' en17 J (F_files_Store_Read (L := own (kI .u8) 5 B141 m142 d143 y139.1 :: own k63 63 A183 n184 c185 l186 :: zone Z178 wz179 :: L) (some (⟨l122, x123, x124, b125, x126⟩ : S66)) y195 (some ⟨g105, 0, none⟩) h198 X) (fun v U w hR J => ?_) rfl
     obtain ⟨B199, m200, d201, rfl, X⟩ := hR
     replace X := X.pk 1
     replace X := SH.unoptP X
     obtain ⟨A202, n203, c204, X⟩ := obj66_open X
     refine x_m J rfl fun U J => ?_
     refine x_v J (r_extract rfl (J.ev rfl) rfl) rfl fun U J => ?_
     refine x_v J (r_extract rfl (J.ev rfl) rfl) rfl fun U J => ?_
     refine x_m J rfl fun U J => ?_
     refine x_m J rfl fun U J => ?_
     refine wn (hK194 _ _ ?_)
     refine wp_seq_k fun K205 hK205 => ?_
     refine ws fun K206 hK206 => ?_
     refine x_m J rfl fun U J => ?_
     refine x_v J (r_neI rfl (J.ev rfl) (J.ev rfl)) rfl fun U J => ?_
     refine wn (hK206 _ _ ?_)
     refine c_if J rfl (fun hb207 => ?_) fun hb207 => ?_
     ·replace G := ift hb207 G
      refine ws fun K208 hK208 => ?_
      refine x_m J rfl fun U J => ?_
      obtain ⟨y209, h210, G⟩ := bnd G
      refine x_call' en29 J (F_commit_lost (L := blk g105 66 [.slice A202 n203 c204, .int .i64 ((⟨l122, x123, x124, b125, x126⟩ : S66).f1), .int .i64 ((⟨l122, x123, x124, b125, x126⟩ : S66).f2), .bool ((⟨l122, x123, x124, b125, x126⟩ : S66).f3), .int .i64 ((⟨l122, x123, x124, b125, x126⟩ : S66).f4)] :: own2 kp72 (kI .u8) 5 (fun x : S72 => x.f1) 72 A202 n203 c204 ((⟨l122, x123, x124, b125, x126⟩ : S66).f0) :: own (kI .u8) 5 B199 m200 d201 y197.1 :: own (kI .u8) 5 B141 m142 d143 y139.1 :: own k63 63 A183 n184 c185 l186 :: zone Z178 wz179 :: L) y197.2 h210 X) (fun v U w hR J => ?_) rfl
      obtain ⟨rfl, X⟩ := hR
      refine x_m J rfl fun U J => ?_
      refine x_m J rfl fun U J => ?_
      refine x_m J rfl fun U J => ?_
      refine x_m J rfl fun U J => ?_
      refine wn (hK208 _ _ ?_)
      refine wp_ret ?_
      replace X := SH.nil_own (d := (kI .u8)) (e := 5) X
      replace X := SH.nil_own (d := k63) (e := 63) X
      replace X := X.pk 3 |>.pk 3
      replace X := obj66_mk (x := (⟨l122, x123, x124, b125, x126⟩ : S66)) X
      replace X := SH.optS X
      replace X := X.drop 3 |>.drop 3 |>.drop 3 |>.pk 3 |>.pk 1 |>.pk 2 |>.pk 3
      cases G
      have ht := T168_ _ rfl
      subst ht
      replace G := hR168
      replace G : some (0, [], [], y209, some (⟨l122, x123, x124, b125, x126⟩ : S66)) = some y := G
      cases G
      refine hQ _ _ ?_
      refine lv4 Tryz.results12 J rfl rfl rfl rfl ?_
      exact ⟨Z178, wz179, none, 0, 0, none, 0, 0, rfl, h188, X⟩
     replace G := iff' hb207 G
     refine wp_skip ?_
     refine hK205 _ _ ?_
     refine ws fun K211 hK211 => ?_
     refine x_m J rfl fun U J => ?_
     replace X := X.pk 5 |>.pk 3
     obtain ⟨Z212, wz213, X, h214, sb956⟩ := SH.freeze (n := m200) (c := d201) (A := B199) X
     obtain ⟨y215, h216, G⟩ := bnd G
     refine x_call' en30 J (F_ledger_Read (L := blk g105 66 [.slice A202 n203 c204, .int .i64 ((⟨l122, x123, x124, b125, x126⟩ : S66).f1), .int .i64 ((⟨l122, x123, x124, b125, x126⟩ : S66).f2), .bool ((⟨l122, x123, x124, b125, x126⟩ : S66).f3), .int .i64 ((⟨l122, x123, x124, b125, x126⟩ : S66).f4)] :: own2 kp72 (kI .u8) 5 (fun x : S72 => x.f1) 72 A202 n203 c204 ((⟨l122, x123, x124, b125, x126⟩ : S66).f0) :: own (kI .u8) 5 B141 m142 d143 y139.1 :: own k63 63 A183 n184 c185 l186 :: L) y197.1 B199 m200 d201 h216 h214 (Imm.sub hG0 (Sub.trans h188 sb956)) X) (fun v U w hR J => ?_) rfl
     obtain ⟨Z217, wz218, B219, m220, d221, rfl, h222, X⟩ := hR
     have h223 := Imm.sub h214 h222
     refine x_m J rfl fun U J => ?_
     refine x_v J (r_extract rfl (J.ev rfl) rfl) rfl fun U J => ?_
     refine x_v J (r_extract rfl (J.ev rfl) rfl) rfl fun U J => ?_
     refine x_m J rfl fun U J => ?_
     refine x_m J rfl fun U J => ?_
     refine wn (hK211 _ _ ?_)
     refine wp_seq_k fun K224 hK224 => ?_
     refine ws fun K225 hK225 => ?_
     refine x_m J rfl fun U J => ?_
     refine x_v J (r_neI rfl (J.ev rfl) (J.ev rfl)) rfl fun U J => ?_
     refine wn (hK225 _ _ ?_)
     refine c_if J rfl (fun hb226 => ?_) fun hb226 => ?_
     ·replace G := ift hb226 G
      refine ws fun K227 hK227 => ?_
      refine x_m J rfl fun U J => ?_
      refine x_m J rfl fun U J => ?_
      refine x_m J rfl fun U J => ?_
      refine x_m J rfl fun U J => ?_
      refine x_m J rfl fun U J => ?_
      refine wn (hK227 _ _ ?_)
      refine wp_ret ?_
      replace X := SH.nil_own (d := (kI .u8)) (e := 5) X
      replace X := SH.nil_own (d := k63) (e := 63) X
      replace X := X.pk 5 |>.pk 5
      replace X := obj66_mk (x := (⟨l122, x123, x124, b125, x126⟩ : S66)) X
      replace X := SH.optS X
      replace X := X.drop 3 |>.drop 4 |>.drop 4 |>.pk 3 |>.pk 1 |>.pk 2 |>.pk 3
      cases G
      have ht := T168_ _ rfl
      subst ht
      replace G := hR168
      replace G : some (0, [], [], y215.2, some (⟨l122, x123, x124, b125, x126⟩ : S66)) = some y := G
      cases G
      refine hQ _ _ ?_
      refine lv4 Tryz.results12 J rfl rfl rfl rfl ?_
      exact ⟨Z217, wz218, none, 0, 0, none, 0, 0, rfl, (Sub.trans (Sub.trans h188 sb956) h222), X⟩
     replace G := iff' hb226 G
     refine wp_skip ?_
     refine hK224 _ _ ?_
     refine wp_reg ?_
     refine x_m J rfl fun U J => ?_
     refine x_m J rfl fun U J => ?_
     obtain ⟨h228, G⟩ := chk_some G
     have hr := X.rd 0 rfl
     refine x_app' 5 inf63 uu31 J X hr.1 hr.2.1 h228 rfl (fun A229 n230 c231 U w X J => ?_) rfl
     refine x_m J rfl fun U J => ?_
     refine wpList_nil ?_
     refine hKx193 _ _ ?_
     refine hK192 _ _ ?_
     refine wp_reg ?_
     refine x_m J rfl fun U J => ?_
     obtain ⟨x232, h233, G⟩ := ltt_ G
     refine x_v (v := .int .u64 x232) J (rv_i h233 (r_add rfl (J.ev rfl) (J.ev rfl))) rfl fun U J => ?_
     refine x_m J rfl fun U J => ?_
     refine wpList_nil ?_
     replace X := X.drop 1 |>.pk 1 |>.pk 1 |>.pk 4 |>.pk 4 |>.pk 4
     cases G
     exact ⟨_, N168_ _ rfl, Z217, wz218, A202, n203, c204, A229, n230, c231, (Sub.trans (Sub.trans h188 sb956) h222), J.sub _ rfl, X⟩
    replace G := iff' hb191 G
    refine wp_exit ?_
    cases G
    exact hx168_0 l186 (T168_ _ rfl) Z178 wz179 A180 n181 c182 A183 n184 c185 h188 U w (J.sub _ rfl) X
   refine wp_reg ?_
   refine x_m J rfl fun U J => ?_
   refine x_v J (r_neI rfl (J.ev rfl) (J.ev rfl)) rfl fun U J => ?_
   refine x_m J rfl fun U J => ?_
   refine bcase (b := x127 != 0) (fun hb234 => ?_) fun hb234 => ?_
   ·replace G := ift hb234 G
    refine xO 2 hb234 J rfl fun U J => ?_
    refine x_pickt' hb234 J (fun U J => ?_) rfl
    refine wpList_nil ?_
    exact hj2 true G U w (J.sub _ rfl) X
   replace G := iff' hb234 G
   refine x_on' hb234 J ?_ rfl
   refine x_m J rfl fun U J => ?_
   refine x_on' hb234 J ?_ rfl
   refine x_v J (r_eqI rfl (J.ev rfl) (J.ev rfl)) rfl fun U J => ?_
   refine x_pickf' hb234 J (fun U J => ?_) rfl
   refine wpList_nil ?_
   exact hj2 (y113.1 == 0) G U w (J.sub _ rfl) X
  refine ws fun K235 hK235 => ?_
  refine x_m J rfl fun U J => ?_
  refine x_v J (r_eqI rfl (J.ev rfl) (J.ev rfl)) rfl fun U J => ?_
  refine wn (hK235 _ _ ?_)
  refine c_if J rfl (fun hb236 => ?_) fun hb236 => ?_
  ·replace G := ift hb236 G
   refine wp_reg ?_
   refine x_m J rfl fun U J => ?_
   refine x_m J rfl fun U J => ?_
   replace X := X.pk 1 |>.pk 1
   replace X := obj66_mk (x := y113.2.2) X
   obtain ⟨y237, h238, G⟩ := bnd G
   refine x_call' en26 J (F_commit_sweep (L := zone Z115 wz116 :: L) y113.2.2 y113.1 g105 h238 0 rfl (Gc.sub hG1 h117) (Gc.sub hG2 h117) (Gc.sub hG3 h117) X) (fun v U w hR J => ?_) rfl
   obtain ⟨rfl, X⟩ := hR
   obtain ⟨A239, n240, c241, X⟩ := obj66_open X
   refine x_m J rfl fun U J => ?_
   refine wpList_nil ?_
   exact hj1 y237.2.f0 y237.2.f1 y237.2.f2 y237.2.f3 y237.2.f4 y237.1 G A239 n240 c241 U w (J.sub _ rfl) X
  replace G := iff' hb236 G
  refine wp_skip ?_
  exact hj1 y113.2.2.f0 y113.2.2.f1 y113.2.2.f2 y113.2.2.f3 y113.2.2.f4 y113.2.1 G A118 n119 c120 U w (J.sub _ rfl) X
noncomputable section
set_option linter.unusedSimpArgs false
def law18_awake_j1 (o156 : (Option S66)) (b157 : Bool) : Option (Bool) :=
  if b157 = true then (some false) else ((commit_Recover o156).bind fun y161 => (if (y161.2.2.2.1 == 0) = true then (if (y161.1 == 2) = true then (if ((bts y161.2.1) == [98]) = true then (if ((y161.2.2.1.length : Int) == 2) = true then ((at_ y161.2.2.1 1).bind fun x177 => (some (x177.f2.f0 == [121]))) else (some false)) else (some false)) else (some false)) else (some false)))
def law18_awake : Option (Bool) :=
  (files_New 65536).bind fun y103 => ((commit_Put y103.1 1 [97] [(⟨true, 0, (⟨[120], (⟨0, 0⟩ : S56), (⟨0, 0, false, 0, 0⟩ : S59)⟩ : S61)⟩ : S63)]).bind fun y190 => (if (y190.1 != 0) = true then (law18_awake_j1 y190.2 true) else ((commit_Put y190.2 2 [98] [(⟨true, 0, (⟨[121], (⟨0, 0⟩ : S56), (⟨0, 0, false, 0, 0⟩ : S59)⟩ : S61)⟩ : S63)]).bind fun y212 => (law18_awake_j1 y212.2 (y212.1 != 0)))))
end
theorem F_law18_awake {r : World} {L : List HP} {w : World} {Z : Nat → Prop} {wz : World} {y : (Bool)} (G : law18_awake = some y) (hG0 : Imm Z wz (kI .u32) (some ⟨0, 0, none⟩) 16 16 gl_page_table) (hG1 : Gc Z wz 1 isI64) (hG2 : Gc Z wz 2 isEr) (hG3 : Gc Z wz 3 isEr) (X : SH r (zone Z wz :: L) w) :
  Ret Tryz.prog 7 #[] w fun v w' => ∃ (Z' : Nat → Prop) (wz' : World), v = .bool y ∧ Sub Z wz Z' wz' ∧ SH r (zone Z' wz' :: L) w' := by
 refine enter Tryz.func7 rfl Tryz.ntmps7 [] rfl (by simp) ?_
 intro U J Qf hQ hQn
 unfold law18_awake at G
 refine ws fun K100 hK100 => ?_
 refine x_m J rfl fun U J => ?_
 refine wn (hK100 _ _ ?_)
 refine ws fun K101 hK101 => ?_
 obtain ⟨y102, h103, G⟩ := bnd G
 refine x_call' en8 J (F_files_New (L := zone Z wz :: L) 65536 h103 X) (fun v U w hR J => ?_) rfl
 obtain ⟨p104, rfl, X⟩ := hR
 refine x_m J rfl fun U J => ?_
 refine x_v J (r_extract rfl (J.ev rfl) rfl) rfl fun U J => ?_
 refine x_v J (r_extract rfl (J.ev rfl) rfl) rfl fun U J => ?_
 refine x_m J rfl fun U J => ?_
 refine x_m J rfl fun U J => ?_
 refine wn (hK101 _ _ ?_)
 refine ws fun K105 hK105 => ?_
 refine x_v (v := .agg #[str [120], .int .i64 0, .int .i64 0, .int .u64 0, .float .f64 0, .bool false, .float .f64 0, .float .f64 0]) J (r_build (ps := #[(0, str [120])]) rfl (mapev2 J rfl) (fun w => by kernel_rfl)) rfl fun U J => ?_
 refine x_v (v := .agg #[.bool true, .int .u64 0, str [120], .int .i64 0, .int .i64 0, .int .u64 0, .float .f64 0, .bool false, .float .f64 0, .float .f64 0]) J (r_build (ps := #[(0, .bool true), (2, .agg #[str [120], .int .i64 0, .int .i64 0, .int .u64 0, .float .f64 0, .bool false, .float .f64 0, .float .f64 0])]) rfl (mapev2 J rfl) (fun w => by kernel_rfl)) rfl fun U J => ?_
 refine x_bsl' (d := k63) (e := 63) (ps := #[(0, .agg #[.bool true, .int .u64 0, str [120], .int .i64 0, .int .i64 0, .int .u64 0, .float .f64 0, .bool false, .float .f64 0, .float .f64 0])]) (cells := [.bool true, .int .u64 0, str [120], .int .i64 0, .int .i64 0, .int .u64 0, .float .f64 0, .bool false, .float .f64 0, .float .f64 0]) (xs := [(⟨true, 0, (⟨[120], (⟨0, 0⟩ : S56), (⟨0, 0, false, 0, 0⟩ : S59)⟩ : S61)⟩ : S63)]) (fun w => by kernel_rfl) rfl ⟨[.bool true, .int .u64 0, str [120], .int .i64 0, .int .i64 0, .int .u64 0, .float .f64 0, .bool false, .float .f64 0, .float .f64 0], _, rfl, rfl, rfl⟩ J X (fun g106 U w X J => ?_) rfl
 refine x_m J rfl fun U J => ?_
 refine wn (hK105 _ _ ?_)
 refine ws fun K107 hK107 => ?_
 refine x_v (v := .agg #[str [121], .int .i64 0, .int .i64 0, .int .u64 0, .float .f64 0, .bool false, .float .f64 0, .float .f64 0]) J (r_build (ps := #[(0, str [121])]) rfl (mapev2 J rfl) (fun w => by kernel_rfl)) rfl fun U J => ?_
 refine x_v (v := .agg #[.bool true, .int .u64 0, str [121], .int .i64 0, .int .i64 0, .int .u64 0, .float .f64 0, .bool false, .float .f64 0, .float .f64 0]) J (r_build (ps := #[(0, .bool true), (2, .agg #[str [121], .int .i64 0, .int .i64 0, .int .u64 0, .float .f64 0, .bool false, .float .f64 0, .float .f64 0])]) rfl (mapev2 J rfl) (fun w => by kernel_rfl)) rfl fun U J => ?_
 refine x_bsl' (d := k63) (e := 63) (ps := #[(0, .agg #[.bool true, .int .u64 0, str [121], .int .i64 0, .int .i64 0, .int .u64 0, .float .f64 0, .bool false, .float .f64 0, .float .f64 0])]) (cells := [.bool true, .int .u64 0, str [121], .int .i64 0, .int .i64 0, .int .u64 0, .float .f64 0, .bool false, .float .f64 0, .float .f64 0]) (xs := [(⟨true, 0, (⟨[121], (⟨0, 0⟩ : S56), (⟨0, 0, false, 0, 0⟩ : S59)⟩ : S61)⟩ : S63)]) (fun w => by kernel_rfl) rfl ⟨[.bool true, .int .u64 0, str [121], .int .i64 0, .int .i64 0, .int .u64 0, .float .f64 0, .bool false, .float .f64 0, .float .f64 0], _, rfl, rfl, rfl⟩ J X (fun g108 U w X J => ?_) rfl
 refine x_m J rfl fun U J => ?_
 refine wn (hK107 _ _ ?_)
 refine wp_seq_k fun K109 hK109 => ?_
 refine wp_seq_k fun K110 hK110 => ?_
 have hj1 : ∀ (o111 : (Option S66)) (b112 : Bool), law18_awake_j1 o111 b112 = some y → ∀ (Z113 : Nat → Prop) (wz114 : World) (h115 : Sub Z wz Z113 wz114) (U : Act) (w : World), FR 64 [] U [(1, .pointer p104), (32, .bool b112)] → SH r (optP (obj66) p104 o111 :: zone Z113 wz114 :: L) w → K110 U w := by
  intro o111 b112 G Z113 wz114 h115 U w J X
  unfold law18_awake_j1 at G
  refine hK110 _ _ ?_
  refine c_if J rfl (fun hb116 => ?_) fun hb116 => ?_
  ·replace G := ift hb116 G
   refine ws fun K117 hK117 => ?_
   refine x_m J rfl fun U J => ?_
   refine wn (hK117 _ _ ?_)
   refine wp_ret ?_
   replace X := X.drop 0
   cases G
   refine hQ _ _ ?_
   refine lv Tryz.results7 J rfl ?_
   exact ⟨Z113, wz114, rfl, h115, X⟩
  replace G := iff' hb116 G
  refine wp_skip ?_
  refine hK109 _ _ ?_
  refine ws fun K118 hK118 => ?_
  refine x_m J rfl fun U J => ?_
  replace X := X.pk 1 |>.pk 1
  obtain ⟨y119, h120, G⟩ := bnd G
  refine x_call' en12 J (F_commit_Recover (L := L) o111 p104 h120 (Imm.sub hG0 h115) (Gc.sub hG1 h115) (Gc.sub hG2 h115) (Gc.sub hG3 h115) X) (fun v U w hR J => ?_) rfl
  obtain ⟨Z121, wz122, B123, m124, d125, B126, m127, d128, rfl, h129, X⟩ := hR
  refine x_m J rfl fun U J => ?_
  refine x_v J (r_extract rfl (J.ev rfl) rfl) rfl fun U J => ?_
  refine x_v J (r_extract rfl (J.ev rfl) rfl) rfl fun U J => ?_
  refine x_v J (r_extract rfl (J.ev rfl) rfl) rfl fun U J => ?_
  refine x_v J (r_extract rfl (J.ev rfl) rfl) rfl fun U J => ?_
  refine x_m J rfl fun U J => ?_
  refine x_m J rfl fun U J => ?_
  refine x_m J rfl fun U J => ?_
  refine x_m J rfl fun U J => ?_
  refine wn (hK118 _ _ ?_)
  refine ws fun K130 hK130 => ?_
  refine x_m J rfl fun U J => ?_
  refine x_v J (r_eqI rfl (J.ev rfl) (J.ev rfl)) rfl fun U J => ?_
  refine x_m J rfl fun U J => ?_
  refine bcase (b := y119.2.2.2.1 == 0) (fun hb131 => ?_) fun hb131 => ?_
  ·replace G := ift hb131 G
   refine x_on' hb131 J ?_ rfl
   refine x_m J rfl fun U J => ?_
   refine x_on' hb131 J ?_ rfl
   refine x_v J (r_eqI rfl (J.ev rfl) (J.ev rfl)) rfl fun U J => ?_
   refine x_pickt' hb131 J (fun U J => ?_) rfl
   refine x_m J rfl fun U J => ?_
   refine bcase (b := y119.1 == 2) (fun hb132 => ?_) fun hb132 => ?_
   ·replace G := ift hb132 G
    refine x_on' hb132 J ?_ rfl
    refine x_m J rfl fun U J => ?_
    refine x_on' hb132 J ?_ rfl
    refine x_b2s' uu29 uu5 uu9 (X.rd 0 rfl) J (fun U J => ?_) rfl
    refine x_on' hb132 J ?_ rfl
    refine x_v J (r_eqS rfl (J.ev rfl) (J.ev rfl)) rfl fun U J => ?_
    refine x_pickt' hb132 J (fun U J => ?_) rfl
    refine x_m J rfl fun U J => ?_
    refine bcase (b := (bts y119.2.1) == [98]) (fun hb133 => ?_) fun hb133 => ?_
    ·replace G := ift hb133 G
     refine x_on' hb133 J ?_ rfl
     refine x_m J rfl fun U J => ?_
     refine x_on' hb133 J ?_ rfl
     refine x_len' uu31 (X.rd 1 rfl).2.1 J (fun U J => ?_) rfl
     refine x_on' hb133 J ?_ rfl
     refine x_v J (r_eqI rfl (J.ev rfl) (J.ev rfl)) rfl fun U J => ?_
     refine x_pickt' hb133 J (fun U J => ?_) rfl
     refine x_m J rfl fun U J => ?_
     refine bcase (b := (y119.2.2.1.length : Int) == 2) (fun hb134 => ?_) fun hb134 => ?_
     ·replace G := ift hb134 G
      refine x_on' hb134 J ?_ rfl
      refine x_m J rfl fun U J => ?_
      refine x_on' hb134 J ?_ rfl
      obtain ⟨x135, h136, G⟩ := bnd G
      refine x_ia' uu31 sz63 (X.rd 1 rfl) h136 J (fun U J => ?_) rfl
      refine x_on' hb134 J ?_ rfl
      refine x_fae (m := (1 : Int).toNat * 10) fa63_2 J (fun U J => ?_) rfl rfl rfl rfl rfl
      refine x_on' hb134 J ?_ rfl
      refine x_fae (m := (1 : Int).toNat * 10 + 2) fa61_0 J (fun U J => ?_) rfl rfl rfl rfl rfl
      refine x_on' hb134 J ?_ rfl
      obtain ⟨cs, hV, hc137⟩ := el (X.rd 1 rfl) h136
      obtain rfl := hV
      refine x_ld' uu9 (hc137 2 _ rfl) J (fun U J => ?_) rfl
      refine x_on' hb134 J ?_ rfl
      refine x_v J (r_eqS rfl (J.ev rfl) (J.ev rfl)) rfl fun U J => ?_
      refine x_pickt' hb134 J (fun U J => ?_) rfl
      refine x_m J rfl fun U J => ?_
      refine wn (hK130 _ _ ?_)
      refine wp_ret ?_
      replace X := X.drop 0 |>.drop 0 |>.drop 0
      cases G
      refine hQ _ _ ?_
      refine lv Tryz.results7 J rfl ?_
      exact ⟨Z121, wz122, rfl, (Sub.trans h115 h129), X⟩
     replace G := iff' hb134 G
     refine xO 6 hb134 J rfl fun U J => ?_
     refine x_pickf' hb134 J (fun U J => ?_) rfl
     refine x_m J rfl fun U J => ?_
     refine wn (hK130 _ _ ?_)
     refine wp_ret ?_
     replace X := X.drop 0 |>.drop 0 |>.drop 0
     cases G
     refine hQ _ _ ?_
     refine lv Tryz.results7 J rfl ?_
     exact ⟨Z121, wz122, rfl, (Sub.trans h115 h129), X⟩
    replace G := iff' hb133 G
    refine xO 3 hb133 J rfl fun U J => ?_
    refine x_pickf' hb133 J (fun U J => ?_) rfl
    refine x_m J rfl fun U J => ?_
    refine xO 6 rfl J rfl fun U J => ?_
    refine x_pickf' rfl J (fun U J => ?_) rfl
    refine x_m J rfl fun U J => ?_
    refine wn (hK130 _ _ ?_)
    refine wp_ret ?_
    replace X := X.drop 0 |>.drop 0 |>.drop 0
    cases G
    refine hQ _ _ ?_
    refine lv Tryz.results7 J rfl ?_
    exact ⟨Z121, wz122, rfl, (Sub.trans h115 h129), X⟩
   replace G := iff' hb132 G
   refine xO 3 hb132 J rfl fun U J => ?_
   refine x_pickf' hb132 J (fun U J => ?_) rfl
   refine x_m J rfl fun U J => ?_
   refine xO 3 rfl J rfl fun U J => ?_
   refine x_pickf' rfl J (fun U J => ?_) rfl
   refine x_m J rfl fun U J => ?_
   refine xO 6 rfl J rfl fun U J => ?_
   refine x_pickf' rfl J (fun U J => ?_) rfl
   refine x_m J rfl fun U J => ?_
   refine wn (hK130 _ _ ?_)
   refine wp_ret ?_
   replace X := X.drop 0 |>.drop 0 |>.drop 0
   cases G
   refine hQ _ _ ?_
   refine lv Tryz.results7 J rfl ?_
   exact ⟨Z121, wz122, rfl, (Sub.trans h115 h129), X⟩
  replace G := iff' hb131 G
  refine xO 2 hb131 J rfl fun U J => ?_
  refine x_pickf' hb131 J (fun U J => ?_) rfl
  refine x_m J rfl fun U J => ?_
  refine xO 3 rfl J rfl fun U J => ?_
  refine x_pickf' rfl J (fun U J => ?_) rfl
  refine x_m J rfl fun U J => ?_
  refine xO 3 rfl J rfl fun U J => ?_
  refine x_pickf' rfl J (fun U J => ?_) rfl
  refine x_m J rfl fun U J => ?_
  refine xO 6 rfl J rfl fun U J => ?_
  refine x_pickf' rfl J (fun U J => ?_) rfl
  refine x_m J rfl fun U J => ?_
  refine wn (hK130 _ _ ?_)
  refine wp_ret ?_
  replace X := X.drop 0 |>.drop 0 |>.drop 0
  cases G
  refine hQ _ _ ?_
  refine lv Tryz.results7 J rfl ?_
  exact ⟨Z121, wz122, rfl, (Sub.trans h115 h129), X⟩
 refine wp_reg ?_
 refine x_m J rfl fun U J => ?_
 refine x_bsl' (d := (kI .u8)) (e := 5) (ps := #[(0, .int .u8 97)]) (cells := [.int .u8 97]) (xs := [97]) (fun w => by kernel_rfl) rfl ⟨[.int .u8 97], _, rfl, rfl, rfl⟩ J X (fun g138 U w X J => ?_) rfl
 replace X := own_ownm (by decide) X
 refine x_cvM' 0 uu29 uu5 J X rfl (fun  U w X J => ?_) rfl
 refine x_m J rfl fun U J => ?_
 replace X := X.pk 4 |>.pk 1
 obtain ⟨Z139, wz140, X, h141, sb184⟩ := SH.freezem (m := 1) (c := 1) (A := (some ⟨g138, 0, none⟩)) X
 replace X := X.pk 0 |>.pk 2
 obtain ⟨Z142, wz143, X, h144, sb188⟩ := SH.freeze (n := 1) (c := 1) (A := (some ⟨g106, 0, none⟩)) X
 have h145 := Imm.sub h141 sb188
 replace X := X.pk 2
 obtain ⟨y146, h147, G⟩ := bnd G
 refine x_call' en11 J (F_commit_Put (L := own k63 63 (some ⟨g108, 0, none⟩) 1 1 [(⟨true, 0, (⟨[121], (⟨0, 0⟩ : S56), (⟨0, 0, false, 0, 0⟩ : S59)⟩ : S61)⟩ : S63)] :: L) y102.1 1 [97] [(⟨true, 0, (⟨[120], (⟨0, 0⟩ : S56), (⟨0, 0, false, 0, 0⟩ : S59)⟩ : S61)⟩ : S63)] p104 (some ⟨g138, 0, none⟩) 1 1 (some ⟨g106, 0, none⟩) 1 1 h147 h145 h144 (Imm.sub hG0 (Sub.trans sb184 sb188)) (Gc.sub hG1 (Sub.trans sb184 sb188)) (Gc.sub hG2 (Sub.trans sb184 sb188)) (Gc.sub hG3 (Sub.trans sb184 sb188)) X) (fun v U w hR J => ?_) rfl
 obtain ⟨Z148, wz149, rfl, h150, X⟩ := hR
 have h151 := Imm.sub h144 h150
 have h152 := Imm.sub h145 h150
 refine x_v J (r_neI rfl (J.ev rfl) (J.ev rfl)) rfl fun U J => ?_
 refine x_m J rfl fun U J => ?_
 refine bcase (b := y146.1 != 0) (fun hb153 => ?_) fun hb153 => ?_
 ·replace G := ift hb153 G
  refine xO 6 hb153 J rfl fun U J => ?_
  refine x_pickt' hb153 J (fun U J => ?_) rfl
  refine wpList_nil ?_
  replace X := X.drop 2
  exact hj1 y146.2 true G Z148 wz149 (Sub.trans (Sub.trans sb184 sb188) h150) U w (J.sub _ rfl) X
 replace G := iff' hb153 G
 refine x_on' hb153 J ?_ rfl
 refine x_m J rfl fun U J => ?_
 refine x_on' hb153 J ?_ rfl
 refine x_bsl' (d := (kI .u8)) (e := 5) (ps := #[(0, .int .u8 98)]) (cells := [.int .u8 98]) (xs := [98]) (fun w => by kernel_rfl) rfl ⟨[.int .u8 98], _, rfl, rfl, rfl⟩ J X (fun g154 U w X J => ?_) rfl
 refine x_on' hb153 J ?_ rfl
 replace X := own_ownm (by decide) X
 refine x_cvM' 0 uu29 uu5 J X rfl (fun  U w X J => ?_) rfl
 refine x_on' hb153 J ?_ rfl
 refine x_m J rfl fun U J => ?_
 refine x_on' hb153 J ?_ rfl
 replace X := X.pk 2 |>.pk 1
 obtain ⟨Z155, wz156, X, h157, sb202⟩ := SH.freezem (m := 1) (c := 1) (A := (some ⟨g154, 0, none⟩)) X
 have h158 := Imm.sub h151 sb202
 have h159 := Imm.sub h152 sb202
 replace X := X.pk 0 |>.pk 2
 obtain ⟨Z160, wz161, X, h162, sb208⟩ := SH.freeze (n := 1) (c := 1) (A := (some ⟨g108, 0, none⟩)) X
 have h163 := Imm.sub h158 sb208
 have h164 := Imm.sub h159 sb208
 have h165 := Imm.sub h157 sb208
 replace X := X.pk 1
 obtain ⟨y166, h167, G⟩ := bnd G
 refine x_call' en11 J (F_commit_Put (L := L) y146.2 2 [98] [(⟨true, 0, (⟨[121], (⟨0, 0⟩ : S56), (⟨0, 0, false, 0, 0⟩ : S59)⟩ : S61)⟩ : S63)] p104 (some ⟨g154, 0, none⟩) 1 1 (some ⟨g108, 0, none⟩) 1 1 h167 h165 h162 (Imm.sub hG0 (Sub.trans (Sub.trans (Sub.trans (Sub.trans sb184 sb188) h150) sb202) sb208)) (Gc.sub hG1 (Sub.trans (Sub.trans (Sub.trans (Sub.trans sb184 sb188) h150) sb202) sb208)) (Gc.sub hG2 (Sub.trans (Sub.trans (Sub.trans (Sub.trans sb184 sb188) h150) sb202) sb208)) (Gc.sub hG3 (Sub.trans (Sub.trans (Sub.trans (Sub.trans sb184 sb188) h150) sb202) sb208)) X) (fun v U w hR J => ?_) rfl
 obtain ⟨Z168, wz169, rfl, h170, X⟩ := hR
 have h171 := Imm.sub h163 h170
 have h172 := Imm.sub h162 h170
 have h173 := Imm.sub h164 h170
 have h174 := Imm.sub h165 h170
 refine x_on' hb153 J ?_ rfl
 refine x_v J (r_neI rfl (J.ev rfl) (J.ev rfl)) rfl fun U J => ?_
 refine x_pickf' hb153 J (fun U J => ?_) rfl
 refine wpList_nil ?_
 exact hj1 y166.2 (y166.1 != 0) G Z168 wz169 (Sub.trans (Sub.trans (Sub.trans (Sub.trans (Sub.trans sb184 sb188) h150) sb202) sb208) h170) U w (J.sub _ rfl) X
noncomputable section
set_option linter.unusedSimpArgs false
def law18_CommitMissing_b1 (a1 : Int) (o382 : (Option S66)) : Option (Bool) :=
  (files_Store_List o382).bind fun y384 => (ltt (IntKind.i64.wrap a1) fun x390 => (chk ((y384.length : Int) ≠ 0) (ltt (x390.tmod (y384.length : Int)) fun x393 => ((at_ y384 x393).bind fun x395 => ((files_Store_Delete o382 x395).bind fun y400 => (if (y400.1 != 0) = true then (some false) else ((commit_Recover y400.2).bind fun y405 => (if (x395 == [109, 97, 110]) = true then (if (y405.2.2.2.1 == 0) = true then (if (y405.1 == 0) = true then ((files_Store_List y405.2.2.2.2).bind fun y422 => (some ((y422.length : Int) == 0))) else (some false)) else (some false)) else (if (y405.2.2.2.1 == 3) = true then (some (y405.1 == 0)) else (some false))))))))))
def law18_CommitMissing_x1_0 (a1 : Int) (o489 : (Option S66)) : Option (Bool) :=
  law18_CommitMissing_b1 a1 o489
def law18_CommitMissing_l1 (a0 : Int) (x118 : Int) (o458 : (Option S66)) (x459 : Int) : Option (((Option S66) × Int) ⊕ (((Option S66)) ⊕ (Bool))) :=
  if (decide (x459 ≤ x118)) = true then ((commit_Put o458 x459 [a0] []).bind fun y502 => (if (y502.1 != 0) = true then (some (.inr (.inr false))) else (ltt (IntKind.u64.wrap (x459 + 1)) fun x510 => (some (.inl (y502.2, x510)))))) else (some (.inr (.inl (o458))))
def law18_CommitMissing (a0 : Int) (a1 : Int) : Option (Bool) :=
  (law18_awake).bind fun y104 => (if (!y104) = true then (some false) else ((files_New 1048576).bind fun y112 => (ltt (IntKind.u64.wrap a0) fun x116 => (ltt (IntKind.u64.wrap (1 + (x116.tmod 9))) fun x118 => ((loop (fun s => law18_CommitMissing_l1 a0 x118 s.1 s.2) (y112.1, 1)).bind fun t => match t with | (.inl t) => law18_CommitMissing_x1_0 a1 t | (.inr t) => some t)))))
end
theorem F_law18_CommitMissing {r : World} {L : List HP} {w : World} {Z : Nat → Prop} {wz : World} (a0 : Int) (a1 : Int) {y : (Bool)} (G : law18_CommitMissing a0 a1 = some y) (hG0 : Imm Z wz (kI .u32) (some ⟨0, 0, none⟩) 16 16 gl_page_table) (hG1 : Gc Z wz 1 isI64) (hG2 : Gc Z wz 2 isEr) (hG3 : Gc Z wz 3 isEr) (X : SH r (zone Z wz :: L) w) :
  Ret Tryz.prog 4 #[.int .u8 a0, .int .u8 a1] w fun v w' => ∃ (Z' : Nat → Prop) (wz' : World), v = .bool y ∧ Sub Z wz Z' wz' ∧ SH r (zone Z' wz' :: L) w' := by
 refine enter Tryz.func4 rfl Tryz.ntmps4 [(0, .int .u8 a0), (1, .int .u8 a1)] rfl (by simp) ?_
 intro U J Qf hQ hQn
 unfold law18_CommitMissing at G
 refine ws fun K100 hK100 => ?_
 refine x_m J rfl fun U J => ?_
 refine wn (hK100 _ _ ?_)
 refine wp_seq_k fun K101 hK101 => ?_
 refine ws fun K102 hK102 => ?_
 obtain ⟨y103, h104, G⟩ := bnd G
 refine x_call' en7 J (F_law18_awake (L := L) h104 hG0 hG1 hG2 hG3 X) (fun v U w hR J => ?_) rfl
 obtain ⟨Z105, wz106, rfl, h107, X⟩ := hR
 refine x_v J (r_not rfl (J.ev rfl)) rfl fun U J => ?_
 refine wn (hK102 _ _ ?_)
 refine c_if J rfl (fun hb108 => ?_) fun hb108 => ?_
 ·replace G := ift hb108 G
  refine ws fun K109 hK109 => ?_
  refine x_m J rfl fun U J => ?_
  refine wn (hK109 _ _ ?_)
  refine wp_ret ?_
  cases G
  refine hQ _ _ ?_
  refine lv Tryz.results4 J rfl ?_
  exact ⟨Z105, wz106, rfl, h107, X⟩
 replace G := iff' hb108 G
 refine wp_skip ?_
 refine hK101 _ _ ?_
 refine ws fun K110 hK110 => ?_
 obtain ⟨y111, h112, G⟩ := bnd G
 refine x_call' en8 J (F_files_New (L := zone Z105 wz106 :: L) 1048576 h112 X) (fun v U w hR J => ?_) rfl
 obtain ⟨p113, rfl, X⟩ := hR
 refine x_m J rfl fun U J => ?_
 refine x_v J (r_extract rfl (J.ev rfl) rfl) rfl fun U J => ?_
 refine x_v J (r_extract rfl (J.ev rfl) rfl) rfl fun U J => ?_
 refine x_m J rfl fun U J => ?_
 refine x_m J rfl fun U J => ?_
 refine wn (hK110 _ _ ?_)
 refine ws fun K114 hK114 => ?_
 refine x_m J rfl fun U J => ?_
 obtain ⟨x115, h116, G⟩ := ltt_ G
 refine x_v (v := .int .u64 x115) J (rv_i h116 (r_convI uu5 uu30 rfl (J.ev rfl))) rfl fun U J => ?_
 refine x_v J (r_rem rfl (J.ev rfl) (J.ev rfl) (by decide)) rfl fun U J => ?_
 obtain ⟨x117, h118, G⟩ := ltt_ G
 refine x_v (v := .int .u64 x117) J (rv_i h118 (r_add rfl (J.ev rfl) (J.ev rfl))) rfl fun U J => ?_
 refine x_m J rfl fun U J => ?_
 refine wn (hK114 _ _ ?_)
 refine wp_seq_k fun K119 hK119 => ?_
 refine ws fun K120 hK120 => ?_
 refine x_m J rfl fun U J => ?_
 refine wn (hK120 _ _ ?_)
 refine wp_block_k fun Kx121 hKx121 => ?_
 have hb1 : ∀ (o122 : (Option S66)), law18_CommitMissing_b1 a1 o122 = some y → ∀ (Z123 : Nat → Prop) (wz124 : World) (h125 : Sub Z wz Z123 wz124) (U : Act) (w : World), FR 77 [] U [(1, .int .u8 a1), (5, .pointer p113)] → SH r (optP (obj66) p113 o122 :: zone Z123 wz124 :: L) w → Kx121 U w := by
  intro o122 G Z123 wz124 h125 U w J X
  unfold law18_CommitMissing_b1 at G
  refine hKx121 _ _ ?_
  refine hK119 _ _ ?_
  refine ws fun K126 hK126 => ?_
  refine x_m J rfl fun U J => ?_
  obtain ⟨y127, h128, G⟩ := bnd G
  refine x_call' en14 J (F_files_Store_List (L := zone Z123 wz124 :: L) o122 p113 h128 X) (fun v U w hR J => ?_) rfl
  obtain ⟨B129, m130, d131, rfl, X⟩ := hR
  refine x_m J rfl fun U J => ?_
  refine wn (hK126 _ _ ?_)
  refine ws fun K132 hK132 => ?_
  refine x_m J rfl fun U J => ?_
  refine x_m J rfl fun U J => ?_
  obtain ⟨x133, h134, G⟩ := ltt_ G
  refine x_v (v := .int .i64 x133) J (rv_i h134 (r_convI uu5 uu3 rfl (J.ev rfl))) rfl fun U J => ?_
  refine x_m J rfl fun U J => ?_
  refine x_len' uu42 (X.rd 0 rfl).2.1 J (fun U J => ?_) rfl
  obtain ⟨h135, G⟩ := chk_some G
  obtain ⟨x136, h137, G⟩ := ltt_ G
  refine x_v (v := .int .i64 x136) J (rv_i h137 (r_rem rfl (J.ev rfl) (J.ev rfl) h135)) rfl fun U J => ?_
  obtain ⟨x138, h139, G⟩ := bnd G
  refine x_ia' uu42 sz9 (X.rd 0 rfl) h139 J (fun U J => ?_) rfl
  obtain ⟨cs, hV, hc140⟩ := el (X.rd 0 rfl) h139
  obtain rfl := hV
  refine x_ld' uu9 (hc140 0 _ rfl) J (fun U J => ?_) rfl
  refine x_m J rfl fun U J => ?_
  refine wn (hK132 _ _ ?_)
  refine wp_seq_k fun K141 hK141 => ?_
  refine ws fun K142 hK142 => ?_
  refine x_m J rfl fun U J => ?_
  refine x_m J rfl fun U J => ?_
  replace X := X.pk 1
  obtain ⟨y143, h144, G⟩ := bnd G
  refine x_call' en15 J (F_files_Store_Delete (L := own kS 9 B129 m130 d131 y127 :: zone Z123 wz124 :: L) o122 x138 p113 h144 X) (fun v U w hR J => ?_) rfl
  obtain ⟨rfl, X⟩ := hR
  refine x_v J (r_neI rfl (J.ev rfl) (J.ev rfl)) rfl fun U J => ?_
  refine wn (hK142 _ _ ?_)
  refine c_if J rfl (fun hb145 => ?_) fun hb145 => ?_
  ·replace G := ift hb145 G
   refine ws fun K146 hK146 => ?_
   refine x_m J rfl fun U J => ?_
   refine wn (hK146 _ _ ?_)
   refine wp_ret ?_
   replace X := X.drop 0 |>.drop 0
   cases G
   refine hQ _ _ ?_
   refine lv Tryz.results4 J rfl ?_
   exact ⟨Z123, wz124, rfl, h125, X⟩
  replace G := iff' hb145 G
  refine wp_skip ?_
  refine hK141 _ _ ?_
  refine ws fun K147 hK147 => ?_
  refine x_m J rfl fun U J => ?_
  replace X := X.pk 2 |>.pk 1
  obtain ⟨y148, h149, G⟩ := bnd G
  refine x_call' en12 J (F_commit_Recover (L := own kS 9 B129 m130 d131 y127 :: L) y143.2 p113 h149 (Imm.sub hG0 h125) (Gc.sub hG1 h125) (Gc.sub hG2 h125) (Gc.sub hG3 h125) X) (fun v U w hR J => ?_) rfl
  obtain ⟨Z150, wz151, B152, m153, d154, B155, m156, d157, rfl, h158, X⟩ := hR
  refine x_m J rfl fun U J => ?_
  refine x_v J (r_extract rfl (J.ev rfl) rfl) rfl fun U J => ?_
  refine x_v J (r_extract rfl (J.ev rfl) rfl) rfl fun U J => ?_
  refine x_v J (r_extract rfl (J.ev rfl) rfl) rfl fun U J => ?_
  refine x_v J (r_extract rfl (J.ev rfl) rfl) rfl fun U J => ?_
  refine x_m J rfl fun U J => ?_
  refine x_m J rfl fun U J => ?_
  refine x_m J rfl fun U J => ?_
  refine x_m J rfl fun U J => ?_
  refine wn (hK147 _ _ ?_)
  refine wp_seq_k fun K159 hK159 => ?_
  refine ws fun K160 hK160 => ?_
  refine x_m J rfl fun U J => ?_
  refine x_v J (r_eqS rfl (J.ev rfl) (J.ev rfl)) rfl fun U J => ?_
  refine wn (hK160 _ _ ?_)
  refine c_if J rfl (fun hb161 => ?_) fun hb161 => ?_
  ·replace G := ift hb161 G
   refine ws fun K162 hK162 => ?_
   refine x_m J rfl fun U J => ?_
   refine x_v J (r_eqI rfl (J.ev rfl) (J.ev rfl)) rfl fun U J => ?_
   refine x_m J rfl fun U J => ?_
   refine bcase (b := y148.2.2.2.1 == 0) (fun hb163 => ?_) fun hb163 => ?_
   ·replace G := ift hb163 G
    refine x_on' hb163 J ?_ rfl
    refine x_m J rfl fun U J => ?_
    refine x_on' hb163 J ?_ rfl
    refine x_v J (r_eqI rfl (J.ev rfl) (J.ev rfl)) rfl fun U J => ?_
    refine x_pickt' hb163 J (fun U J => ?_) rfl
    refine x_m J rfl fun U J => ?_
    refine bcase (b := y148.1 == 0) (fun hb164 => ?_) fun hb164 => ?_
    ·replace G := ift hb164 G
     refine x_on' hb164 J ?_ rfl
     refine x_m J rfl fun U J => ?_
     refine x_on' hb164 J ?_ rfl
     replace X := X.pk 2
     obtain ⟨y165, h166, G⟩ := bnd G
     refine x_call' en14 J (F_files_Store_List (L := own (kI .u8) 5 B152 m153 d154 y148.2.1 :: own k63 63 B155 m156 d157 y148.2.2.1 :: zone Z150 wz151 :: own kS 9 B129 m130 d131 y127 :: L) y148.2.2.2.2 p113 h166 X) (fun v U w hR J => ?_) rfl
     obtain ⟨B167, m168, d169, rfl, X⟩ := hR
     refine x_on' hb164 J ?_ rfl
     refine x_len' uu42 (X.rd 0 rfl).2.1 J (fun U J => ?_) rfl
     refine x_on' hb164 J ?_ rfl
     refine x_v J (r_eqI rfl (J.ev rfl) (J.ev rfl)) rfl fun U J => ?_
     refine x_pickt' hb164 J (fun U J => ?_) rfl
     refine x_m J rfl fun U J => ?_
     refine wn (hK162 _ _ ?_)
     refine wp_ret ?_
     replace X := X.drop 0 |>.drop 0 |>.drop 0 |>.drop 0 |>.drop 1
     cases G
     refine hQ _ _ ?_
     refine lv Tryz.results4 J rfl ?_
     exact ⟨Z150, wz151, rfl, (Sub.trans h125 h158), X⟩
    replace G := iff' hb164 G
    refine xO 4 hb164 J rfl fun U J => ?_
    refine x_pickf' hb164 J (fun U J => ?_) rfl
    refine x_m J rfl fun U J => ?_
    refine wn (hK162 _ _ ?_)
    refine wp_ret ?_
    replace X := X.drop 0 |>.drop 0 |>.drop 0 |>.drop 1
    cases G
    refine hQ _ _ ?_
    refine lv Tryz.results4 J rfl ?_
    exact ⟨Z150, wz151, rfl, (Sub.trans h125 h158), X⟩
   replace G := iff' hb163 G
   refine xO 2 hb163 J rfl fun U J => ?_
   refine x_pickf' hb163 J (fun U J => ?_) rfl
   refine x_m J rfl fun U J => ?_
   refine xO 4 rfl J rfl fun U J => ?_
   refine x_pickf' rfl J (fun U J => ?_) rfl
   refine x_m J rfl fun U J => ?_
   refine wn (hK162 _ _ ?_)
   refine wp_ret ?_
   replace X := X.drop 0 |>.drop 0 |>.drop 0 |>.drop 1
   cases G
   refine hQ _ _ ?_
   refine lv Tryz.results4 J rfl ?_
   exact ⟨Z150, wz151, rfl, (Sub.trans h125 h158), X⟩
  replace G := iff' hb161 G
  refine wp_skip ?_
  refine hK159 _ _ ?_
  refine ws fun K170 hK170 => ?_
  refine x_m J rfl fun U J => ?_
  refine x_v J (r_eqI rfl (J.ev rfl) (J.ev rfl)) rfl fun U J => ?_
  refine x_m J rfl fun U J => ?_
  refine bcase (b := y148.2.2.2.1 == 3) (fun hb171 => ?_) fun hb171 => ?_
  ·replace G := ift hb171 G
   refine x_on' hb171 J ?_ rfl
   refine x_m J rfl fun U J => ?_
   refine x_on' hb171 J ?_ rfl
   refine x_v J (r_eqI rfl (J.ev rfl) (J.ev rfl)) rfl fun U J => ?_
   refine x_pickt' hb171 J (fun U J => ?_) rfl
   refine x_m J rfl fun U J => ?_
   refine wn (hK170 _ _ ?_)
   refine wp_ret ?_
   replace X := X.drop 0 |>.drop 0 |>.drop 0 |>.drop 1
   cases G
   refine hQ _ _ ?_
   refine lv Tryz.results4 J rfl ?_
   exact ⟨Z150, wz151, rfl, (Sub.trans h125 h158), X⟩
  replace G := iff' hb171 G
  refine xO 2 hb171 J rfl fun U J => ?_
  refine x_pickf' hb171 J (fun U J => ?_) rfl
  refine x_m J rfl fun U J => ?_
  refine wn (hK170 _ _ ?_)
  refine wp_ret ?_
  replace X := X.drop 0 |>.drop 0 |>.drop 0 |>.drop 1
  cases G
  refine hQ _ _ ?_
  refine lv Tryz.results4 J rfl ?_
  exact ⟨Z150, wz151, rfl, (Sub.trans h125 h158), X⟩
 obtain ⟨t172, hl172, G⟩ := bnd G
 have hR172 := G
 have hx172_0 : ∀ (o172 : (Option S66)), (.inl (o172)) = t172 → ∀ (Z173 : Nat → Prop) (wz174 : World) (h175 : Sub Z wz Z173 wz174) (U : Act) (w : World), FR 77 [] U [(1, .int .u8 a1), (5, .pointer p113)] → SH r (optP (obj66) p113 o172 :: zone Z173 wz174 :: L) w → Kx121 U w := by
  intro o172 ht Z173 wz174 h175 U w J X
  subst ht
  replace G : law18_CommitMissing_x1_0 a1 o172 = some y := G
  unfold law18_CommitMissing_x1_0 at G
  exact hb1 o172 G Z173 wz174 h175 U w (J.sub _ rfl) X
 refine wp_loop_fn hl172 (fun s U w => ∃ (Z176 : Nat → Prop) (wz177 : World), Sub Z wz Z176 wz177 ∧ FR 77 [] U [(0, .int .u8 a0), (1, .int .u8 a1), (5, .pointer p113), (7, .int .u64 x117), (8, .int .u64 s.2)] ∧ SH r (optP (obj66) p113 s.1 :: zone Z176 wz177 :: L) w) ⟨Z105, wz106, h107, J.sub _ rfl, X⟩ ?_
 intro N172 s172 o172 G N172_ T172_ U w hLab
 obtain ⟨o178, x179⟩ := s172
 replace G : law18_CommitMissing_l1 a0 x117 o178 x179 = some o172 := G
 unfold law18_CommitMissing_l1 at G
 try dsimp only at hLab
 obtain ⟨Z176, wz177, h180, J, X⟩ := hLab
 refine wp_seq_k fun K181 hK181 => ?_
 refine ws fun K182 hK182 => ?_
 refine x_m J rfl fun U J => ?_
 refine x_m J rfl fun U J => ?_
 refine x_v J (r_leI rfl (J.ev rfl) (J.ev rfl)) rfl fun U J => ?_
 refine wn (hK182 _ _ ?_)
 refine c_if J rfl (fun hb183 => ?_) fun hb183 => ?_
 ·replace G := ift hb183 G
  refine wp_skip ?_
  refine hK181 _ _ ?_
  refine wp_seq_k fun K184 hK184 => ?_
  refine wp_block_k fun Kx185 hKx185 => ?_
  refine ws fun K186 hK186 => ?_
  refine x_m J rfl fun U J => ?_
  refine x_m J rfl fun U J => ?_
  refine x_m J rfl fun U J => ?_
  refine x_bsl' (d := (kI .u8)) (e := 5) (ps := #[(0, .int .u8 a0)]) (cells := [.int .u8 a0]) (xs := [a0]) (fun w => by kernel_rfl) rfl ⟨[.int .u8 a0], _, rfl, rfl, rfl⟩ J X (fun g187 U w X J => ?_) rfl
  replace X := X.pk 2 |>.pk 1
  obtain ⟨Z188, wz189, X, h190, sb501⟩ := SH.freeze (n := 1) (c := 1) (A := (some ⟨g187, 0, none⟩)) X
  replace X := X.pk 1
  obtain ⟨y191, h192, G⟩ := bnd G
  refine x_call' en11 J (F_commit_Put (L := L) o178 x179 [a0] [] p113 (some ⟨g187, 0, none⟩) 1 1 none 0 0 h192 h190 Imm.nil (Imm.sub hG0 (Sub.trans h180 sb501)) (Gc.sub hG1 (Sub.trans h180 sb501)) (Gc.sub hG2 (Sub.trans h180 sb501)) (Gc.sub hG3 (Sub.trans h180 sb501)) X) (fun v U w hR J => ?_) rfl
  obtain ⟨Z193, wz194, rfl, h195, X⟩ := hR
  have h196 := Imm.sub h190 h195
  refine x_v J (r_neI rfl (J.ev rfl) (J.ev rfl)) rfl fun U J => ?_
  refine wn (hK186 _ _ ?_)
  refine c_if J rfl (fun hb197 => ?_) fun hb197 => ?_
  ·replace G := ift hb197 G
   refine ws fun K198 hK198 => ?_
   refine x_m J rfl fun U J => ?_
   refine wn (hK198 _ _ ?_)
   refine wp_ret ?_
   replace X := X.drop 0
   cases G
   have ht := T172_ _ rfl
   subst ht
   replace G := hR172
   replace G : some false = some y := G
   cases G
   refine hQ _ _ ?_
   refine lv Tryz.results4 J rfl ?_
   exact ⟨Z193, wz194, rfl, (Sub.trans (Sub.trans h180 sb501) h195), X⟩
  replace G := iff' hb197 G
  refine wp_skip ?_
  refine hKx185 _ _ ?_
  refine hK184 _ _ ?_
  refine wp_reg ?_
  refine x_m J rfl fun U J => ?_
  obtain ⟨x199, h200, G⟩ := ltt_ G
  refine x_v (v := .int .u64 x199) J (rv_i h200 (r_add rfl (J.ev rfl) (J.ev rfl))) rfl fun U J => ?_
  refine x_m J rfl fun U J => ?_
  refine wpList_nil ?_
  cases G
  exact ⟨_, N172_ _ rfl, Z193, wz194, (Sub.trans (Sub.trans h180 sb501) h195), J.sub _ rfl, X⟩
 replace G := iff' hb183 G
 refine wp_exit ?_
 cases G
 exact hx172_0 o178 (T172_ _ rfl) Z176 wz177 h180 U w (J.sub _ rfl) X
end Go.Proofs.YtffdckhgkhhbjaaGreatDoor.M
namespace Go.Proofs.YtffdckhgkhhbjaaGreatDoor.commitMissing
open Go Go.RowKit Go.ChangeShapes Go.WideShapes Go.ChangeAt Go.Proofs.YtffdckhgkhhbjaaGreatDoor.E Go.Proofs.YtffdckhgkhhbjaaGreatDoor.M
set_option linter.unusedVariables false
theorem own : ownKnob Tryz.prog.godebug = none := by kernel_rfl
theorem laidOut : laidOutB Tryz.prog = true := by kernel_rfl
theorem gN0 : Tryz.prog.globalNamed "headrace/page.table" = some 0 := by kernel_rfl
theorem gT0 : (Tryz.prog.globals[0]?).map (·.type) = some 138 := by kernel_rfl
theorem gN2 : Tryz.prog.globalNamed "strconv.ErrSyntax" = some 2 := by kernel_rfl
theorem gT2 : (Tryz.prog.globals[2]?).map (·.type) = some 99 := by kernel_rfl
theorem gN3 : Tryz.prog.globalNamed "strconv.ErrRange" = some 3 := by kernel_rfl
theorem gT3 : (Tryz.prog.globals[3]?).map (·.type) = some 99 := by kernel_rfl
theorem door_met (os : Os) (args : Array Value) : laidMetH Tryz.prog Rows.commitMissingRow.laid ((World.doorLaid Tryz.prog 400 os).forCall (fun _ _ => 0) ⟨#[], args, []⟩).memory :=
  laidMetH_of_parts3 (fuel := 8) (laidMet_of_run' 8 (by kernel_rfl) (by kernel_rfl)) (by kernel_rfl) (by kernel_rfl)
theorem of_laid0 {W : World} (h : laidMetH Tryz.prog Rows.commitMissingRow.laid W) : Imm (HeapZ W) W (kI .u32) (some ⟨0, 0, none⟩) 16 16 M.gl_page_table := by
  rw [MakeChecks.laidMetH_plain _ _ _ (by kernel_rfl)] at h
  replace h := h.filter (fun x => x.1 == "headrace/page.table")
  exact tab_imm gN0 gT0 Tryz.underlying138 Tryz.underlying47 ce47 rfl (by decide) h
theorem of_laid1 {W : World} (h : W.ShapedOpen Tryz.prog) : Gc (HeapZ W) W 1 isI64 := gc_i64 h (of_decide_eq_true (by kernel_rfl)) (zero := #[.int .i64 0]) (t := 3) (by kernel_rfl) rfl (by kernel_rfl) (by kernel_rfl) Tryz.underlying3
theorem of_laid2 {W : World} (h : laidMetH Tryz.prog Rows.commitMissingRow.laid W) : Gc (HeapZ W) W 2 isEr := by
  rw [MakeChecks.laidMetH_plain _ _ _ (by kernel_rfl)] at h
  exact gc_er (d := _) (nm := _) h (by simp [Rows.commitMissingRow, Rows.laid_strconv_ErrSyntax]; exact ⟨rfl, rfl⟩) gN2 gT2 Tryz.underlying99
theorem of_laid3 {W : World} (h : laidMetH Tryz.prog Rows.commitMissingRow.laid W) : Gc (HeapZ W) W 3 isEr := by
  rw [MakeChecks.laidMetH_plain _ _ _ (by kernel_rfl)] at h
  exact gc_er (d := _) (nm := _) h (by simp [Rows.commitMissingRow, Rows.laid_strconv_ErrRange]; exact ⟨rfl, rfl⟩) gN3 gT3 Tryz.underlying99
def Pure : Prop := ∀ (a0 : Int) (a1 : Int), (gI .u8) a0 → (gI .u8) a1 → M.law18_CommitMissing a0 a1 = some true
set_option maxRecDepth 100000 in
theorem lifted (hP : Pure) (os : Os) (started : os.Started) (H : Type) (enc : TypeId × Value → H) :
    ReturnsInHanded {} Tryz.checked os 4 .any (fun w args => (Rows.commitMissingSpec.pre enc Tryz.prog Tryz.f4 [] false w args ∧ laidMetH Tryz.prog Rows.commitMissingRow.laid w) ∧ sizedMet enc Tryz.prog Tryz.f4 (OpenSpec.ofChange Rows.commitMissingSpec) false w args)
      (Rows.commitMissingSpec.post enc Tryz.prog Tryz.f4 false true false false) := by
  refine handed_shaped (C := Tryz.checked) (X := fun w _ => laidMetH Tryz.prog Rows.commitMissingRow.laid w) (fun _ _ _ hh h => h.of_heap hh) own started (by kernel_rfl) Tryz.func4
    (ChangeSpec.witness_shaped (enc := enc) (C := Tryz.checked) (os := os) (X := fun w _ => laidMetH Tryz.prog Rows.commitMissingRow.laid w) false (World.doorLaid Tryz.prog 400 os) #[.int .u8 0, .int .u8 0] 8 rfl (World.shaped_of_RefB (by kernel_rfl) (by kernel_rfl)) (by kernel_rfl) (by kernel_rfl) (by kernel_rfl) (door_met os _)) ?_
  intro W base args ds gs before hval0 hW hsz0 hL hsh
  have hsz : (DataW.weightsEach Tryz.prog (Tryz.f4.params.toList ++ Rows.commitMissingSpec.plain.varTypes Tryz.prog) (ds ++ gs)).all (· ≤ reachBytes) = true := hsz0
  have hval : ∀ (j : Nat) t v, Tryz.f4.params[j]? = some t → args[j]? = some v → Value.okWide Tryz.prog W .any base t v := hval0
  have hW' := hW
  obtain ⟨p, q, hA0, hV, rfl, hfz, hnd⟩ := hW
  have hA : DataW.TrodAll enc Tryz.prog W 0 (fun _ => true) true Tryz.f4.params.toList args.toList ds p := hA0
  rw [Tryz.params4] at hA hval hsz
  obtain ⟨v0, vs0, d0, ds0, p0, q0, hargs, rfl, rfl, h0, r0⟩ := trodAll_cons hA
  obtain ⟨v1, vs1, d1, ds1, p1, q1, rfl, rfl, rfl, h1, r1⟩ := trodAll_cons r0
  obtain ⟨rfl, rfl, rfl⟩ := trodAll_nil r1
  obtain rfl : args = #[v0, v1] := by cases args; simp_all
  obtain ⟨rfl, rfl⟩ := trodVars_none hV
  have k0 := h0
  have lt0 : ∀ x ∈ p0, x.block < W.heap.size := by obtain ⟨m, hm⟩ := k0; exact DataW.trod_lt m _ _ _ hm
  obtain ⟨x0, hx0, g0⟩ := Opens.arg (opI Tryz.underlying5) h0 (Wt.of hsz (j := 0) rfl rfl)
  obtain ⟨u0, rfl⟩ := okWide_int Tryz.underlying5 (hval 0 5 v0 rfl rfl)
  cases (show [Value.int .u8 u0] = [Value.int .u8 x0] from hx0)
  have k1 := h1
  have lt1 : ∀ x ∈ p1, x.block < W.heap.size := by obtain ⟨m, hm⟩ := k1; exact DataW.trod_lt m _ _ _ hm
  obtain ⟨x1, hx1, g1⟩ := Opens.arg (opI Tryz.underlying5) h1 (Wt.of hsz (j := 1) rfl rfl)
  obtain ⟨u1, rfl⟩ := okWide_int Tryz.underlying5 (hval 1 5 v1 rfl rfl)
  cases (show [Value.int .u8 u1] = [Value.int .u8 x1] from hx1)
  clear hA0 hval0 hsz0 hsz
  refine Calls.mono (M.F_law18_CommitMissing (Z := HeapZ W) (wz := W) x0 x1 (hP x0 x1 g0 g1) (of_laid0 hL) (of_laid1 hsh) (of_laid2 hL) (of_laid3 hL) (L := []) (SH.start W)) ?_
  rintro e W' ⟨v, rfl, Z', wz', rfl, hs, hS⟩
  have bel := SH.below hS hs
  exact ⟨_, rfl, _, _, _, [], _, [], hW', trodAll_mk1 (shut_bool Tryz.underlying4 _), (trodAll_cons_mk (Below.trod laidOut (by kernel_rfl) (of_decide_eq_true (by kernel_rfl)) k0 bel lt0) (trodAll_cons_mk (Below.trod laidOut (by kernel_rfl) (of_decide_eq_true (by kernel_rfl)) k1 bel lt1) trodAll_mk0)), rfl, bel.frame _, fun h => by cases h⟩
theorem over (hP : Pure) : Rows.commitMissingRow.holds Tryz.pinned (OpenSpec.ofChange Rows.commitMissingSpec) :=
  OpenClaim.holds_of_wide 4 Tryz.f4 rfl rfl rfl rfl rfl rfl rfl ⟨rfl, rfl, rfl, rfl, rfl⟩ rfl rfl rfl rfl rfl (by kernel_rfl) Tryz.func4 (by kernel_rfl)
    (of_decide_eq_true (by kernel_rfl)) (by unfold Func.isWrapper; first | (rw [if_pos (by decide +kernel)]; kernel_rfl) | (rw [if_neg (by decide +kernel)]; exact ⟨rfl, rfl⟩))
    (fun os started H enc _ => lifted hP os started H enc)
def hrn : Bool × String := Rows.commitMissingCard.stood.harness
theorem card (hP : Pure) : Rows.CommitMissingCardSaid :=
  Claim7.holds_tied_plain_at .later [] [.data, .data, .data, .data, .sentinel, .sentinel] true hrn true
    (over hP) (fun _ h => by cases h) (by kernel_rfl) (fun _ h => by cases h) commitMissing_row_tie rfl ⟨rfl, rfl⟩ (by kernel_rfl) rfl
    (fun f fn hf hfn => by
      obtain rfl : f = 4 := Option.some.inj ((show Tryz.prog.funcNamed "headrace/headracelaw18.CommitMissing" = some 4 by kernel_rfl).symm.trans hf) |>.symm
      obtain rfl : fn = Tryz.f4 := (Option.some.inj (Tryz.func4.symm.trans hfn)).symm
      exact ⟨by kernel_rfl, fun j t ht => by
        rw [Tryz.params4] at ht
        have hm : t ∈ [5, 5] := by simpa using Array.mem_of_getElem? ht
        have hall : ([5, 5].all fun u => !Tryz.prog.wantsStandIn u) = true := by kernel_rfl
        exact (show Tryz.prog.wantsStandIn t = false by simpa using List.all_eq_true.1 hall t hm)⟩)
    (by kernel_rfl)
end Go.Proofs.YtffdckhgkhhbjaaGreatDoor.commitMissing
namespace Go.Proofs.YtffdckhgkhhbjaaGreatDoor.P
open Go Go.RowKit Go.Proofs.YtffdckhgkhhbjaaGreatDoor.E Go.Proofs.YtffdckhgkhhbjaaGreatDoor.M
set_option linter.unusedVariables false
set_option linter.unusedSectionVars false
theorem at_nat {α : Type} (xs : List α) (n : Nat) : at_ xs (n : Int) = xs[n]? := by simp [at_]
theorem at_int {α : Type} {xs : List α} {i : Int} {n : Nat} {x : α} (hi : i = n) (h : xs[n]? = some x) : at_ xs i = some x := by subst hi; rw [at_nat, h]
theorem cut_nat {α : Type} {xs : List α} {l u : Nat} (h : l ≤ u) (hu : u ≤ xs.length) : cut_ xs (l : Int) (u : Int) = some ((xs.take u).drop l) := by
 unfold cut_; rw [if_pos (by omega)]; simp
theorem chk_pos {α : Type} {p : Prop} [Decidable p] {x : Option α} (h : p) : chk p x = x := if_pos h
theorem w64 {n : Int} (h : -9223372036854775808 ≤ n) (h' : n ≤ 9223372036854775807) : IntKind.i64.wrap n = n := IntWalk.i64_in n ⟨h, h'⟩
theorem u64w {n : Int} (h : 0 ≤ n) (h' : n < 18446744073709551616) : IntKind.u64.wrap n = n := IntWalk.u64_in n ⟨h, by omega⟩
theorem u8w {n : Int} (h : 0 ≤ n) (h' : n < 256) : IntKind.u8.wrap n = n := IntWalk.u8_in n ⟨h, by omega⟩
theorem lt_ {α β : Type} (e : α) (f : α → Option β) : ltt e f = f e := rfl
theorem loop_at {σ τ : Type} {b : σ → Option (σ ⊕ τ)} (f : Nat → σ) {t : τ} : ∀ (n : Nat) (i : Nat), (∀ k, i ≤ k → k < i + n → b (f k) = some (.inl (f (k + 1)))) → b (f (i + n)) = some (.inr t) → loop b (f i) = some t
 | 0, i, _, he => loop_end he
 | n + 1, i, hs, he => (loop_nxt (hs i (Nat.le_refl _) (by omega))).trans (loop_at f n (i + 1) (fun k h1 h2 => hs k (by omega) (by omega)) (by rw [show i + 1 + n = i + (n + 1) by omega]; exact he))
theorem loop_to {σ τ : Type} {b : σ → Option (σ ⊕ τ)} (f : Nat → σ) {t : τ} (n : Nat) (hs : ∀ k, k < n → b (f k) = some (.inl (f (k + 1)))) (he : b (f n) = some (.inr t)) : loop b (f 0) = some t :=
 loop_at f n 0 (fun k _ h => hs k (by omega)) (by simpa using he)
theorem ofInt_nat (n a : Nat) : BitVec.ofInt n (a : Int) = BitVec.ofNat n a := BitVec.ofInt_natCast n a
theorem u64_nat (a : Nat) : IntKind.u64.wrap (a : Int) = ((a % 18446744073709551616 : Nat) : Int) := by
 rw [IntKind.wrap_u64]; omega
theorem u8_nat (a : Nat) : IntKind.u8.wrap (a : Int) = ((a % 256 : Nat) : Int) := by rw [IntKind.wrap_u8]; omega
theorem iand_u64 {a b : Nat} (ha : a < 18446744073709551616) (hb : b < 18446744073709551616) : iand .u64 (a : Int) (b : Int) = ((a &&& b : Nat) : Int) := by
 unfold iand
 rw [ofInt_nat, ofInt_nat, u64_nat]
 have h : a &&& b < 18446744073709551616 := Nat.lt_of_le_of_lt Nat.and_le_left ha
 simp only [BitVec.toNat_and, BitVec.toNat_ofNat, show IntKind.u64.bits = 64 from rfl]
 rw [Nat.mod_eq_of_lt (show a < 2 ^ 64 by omega), Nat.mod_eq_of_lt (show b < 2 ^ 64 by omega), Nat.mod_eq_of_lt h]
theorem iand_u8 {a b : Nat} (ha : a < 256) (hb : b < 256) : iand .u8 (a : Int) (b : Int) = ((a &&& b : Nat) : Int) := by
 unfold iand
 rw [ofInt_nat, ofInt_nat, u8_nat]
 have h : a &&& b < 256 := Nat.lt_of_le_of_lt Nat.and_le_left ha
 simp only [BitVec.toNat_and, BitVec.toNat_ofNat, show IntKind.u8.bits = 8 from rfl]
 rw [Nat.mod_eq_of_lt (show a < 2 ^ 8 by omega), Nat.mod_eq_of_lt (show b < 2 ^ 8 by omega), Nat.mod_eq_of_lt h]
theorem ior_u64 {a b : Nat} (ha : a < 18446744073709551616) (hb : b < 18446744073709551616) : ior .u64 (a : Int) (b : Int) = ((a ||| b : Nat) : Int) := by
 unfold ior
 rw [ofInt_nat, ofInt_nat, u64_nat]
 have h : a ||| b < 2 ^ 64 := Nat.or_lt_two_pow (show a < 2 ^ 64 by omega) (show b < 2 ^ 64 by omega)
 simp only [BitVec.toNat_or, BitVec.toNat_ofNat, show IntKind.u64.bits = 64 from rfl]
 rw [Nat.mod_eq_of_lt (show a < 2 ^ 64 by omega), Nat.mod_eq_of_lt (show b < 2 ^ 64 by omega), Nat.mod_eq_of_lt (show a ||| b < 18446744073709551616 from h)]
theorem ior_u8 {a b : Nat} (ha : a < 256) (hb : b < 256) : ior .u8 (a : Int) (b : Int) = ((a ||| b : Nat) : Int) := by
 unfold ior
 rw [ofInt_nat, ofInt_nat, u8_nat]
 have h : a ||| b < 2 ^ 8 := Nat.or_lt_two_pow (show a < 2 ^ 8 by omega) (show b < 2 ^ 8 by omega)
 simp only [BitVec.toNat_or, BitVec.toNat_ofNat, show IntKind.u8.bits = 8 from rfl]
 rw [Nat.mod_eq_of_lt (show a < 2 ^ 8 by omega), Nat.mod_eq_of_lt (show b < 2 ^ 8 by omega), Nat.mod_eq_of_lt (show a ||| b < 256 from h)]
theorem ixor_u64 {a b : Nat} (ha : a < 18446744073709551616) (hb : b < 18446744073709551616) : ixor .u64 (a : Int) (b : Int) = ((a ^^^ b : Nat) : Int) := by
 unfold ixor
 rw [ofInt_nat, ofInt_nat, u64_nat]
 have h : a ^^^ b < 2 ^ 64 := Nat.xor_lt_two_pow (show a < 2 ^ 64 by omega) (show b < 2 ^ 64 by omega)
 simp only [BitVec.toNat_xor, BitVec.toNat_ofNat, show IntKind.u64.bits = 64 from rfl]
 rw [Nat.mod_eq_of_lt (show a < 2 ^ 64 by omega), Nat.mod_eq_of_lt (show b < 2 ^ 64 by omega), Nat.mod_eq_of_lt (show a ^^^ b < 18446744073709551616 from h)]
theorem two_pow (n : Nat) : (2 : Int) ^ n = ((2 ^ n : Nat) : Int) := (Int.natCast_pow 2 n).symm
theorem ishr_nat {k : IntKind} (a n : Nat) (h : n ≤ k.bits) : ishr k (a : Int) (n : Int) = ((a / 2 ^ n : Nat) : Int) := by
 unfold ishr
 rw [Int.toNat_natCast, Nat.min_eq_left h, two_pow, Int.fdiv_eq_ediv_of_nonneg _ (Int.natCast_nonneg _)]
 rfl
theorem ishl_u64 (a n : Nat) (h : n ≤ 64) : ishl .u64 (a : Int) (n : Int) = ((a * 2 ^ n % 18446744073709551616 : Nat) : Int) := by
 unfold ishl
 rw [Int.toNat_natCast, show min n IntKind.u64.bits = n from Nat.min_eq_left h, two_pow, ← Int.natCast_mul, u64_nat]
theorem or_top {a n : Nat} (h : a < 2 ^ n) (b : Nat) : a ||| (b * 2 ^ n) = a + b * 2 ^ n := by
 rw [Nat.or_comm, Nat.mul_comm, ← Nat.two_pow_add_eq_or_of_lt h, Nat.add_comm]
def uv (n : Nat) : List Int := if h : n < 128 then [(n : Int)] else ((n % 128 + 128 : Nat) : Int) :: uv (n / 128)
termination_by n
decreasing_by omega
theorem uv_small {n : Nat} (h : n < 128) : uv n = [(n : Int)] := by rw [uv, dif_pos h]
theorem uv_large {n : Nat} (h : ¬ n < 128) : uv n = ((n % 128 + 128 : Nat) : Int) :: uv (n / 128) := by rw [uv, dif_neg h]
theorem uv_length : ∀ (k n : Nat), n < 128 ^ (k + 1) → (uv n).length ≤ k + 1
 | 0, n, h => by rw [uv_small (by simpa using h)]; simp
 | k + 1, n, h => by
  by_cases hn : n < 128
  ·rw [uv_small hn]; simp
  ·rw [uv_large hn, List.length_cons]
   have := uv_length k (n / 128) (by rw [Nat.pow_succ] at h; exact Nat.div_lt_of_lt_mul (by rw [Nat.mul_comm]; exact h))
   omega
theorem uv_length64 {n : Nat} (h : n < 18446744073709551616) : (uv n).length ≤ 10 := uv_length 9 n (by omega)
set_option maxRecDepth 100000 in
theorem or_128 : ∀ m : Fin 256, (m.val ||| 128) = m.val % 128 + 128 := by decide
theorem Uint_app (n : Nat) : ∀ (a0 : List Int), n < 18446744073709551616 → a0.length + (uv n).length ≤ 140737488355328 → column_Uint a0 (n : Int) = some (a0 ++ uv n) := by
 induction n using Nat.strongRecOn with
 | _ n ih =>
  intro a0 h hl
  unfold column_Uint
  by_cases hn : n < 128
  ·rw [loop_end (t := (a0, (n : Int))) (by
    show column_Uint_l1 a0 (n : Int) = _
    unfold column_Uint_l1
    rw [if_neg (by simp only [decide_eq_true_eq]; omega)])]
   simp only [Option.bind_some]
   unfold column_Uint_x1_0 column_Uint_b1
   rw [uv_small hn] at hl ⊢
   rw [lt_, u8w (by omega) (by omega), chk_pos (by simpa using hl)]
  ·have hl' := hl
   rw [uv_large hn, List.length_cons] at hl'
   have e1 : IntKind.u8.wrap (n : Int) = ((n % 256 : Nat) : Int) := u8_nat n
   have e2 : ior .u8 ((n % 256 : Nat) : Int) 128 = ((n % 128 + 128 : Nat) : Int) := by
    have := ior_u8 (a := n % 256) (b := 128) (by omega) (by omega)
    rw [show ((128 : Nat) : Int) = 128 from rfl] at this
    rw [this, or_128 ⟨n % 256, by omega⟩]
    simp only
    omega
   have e3 : ishr .u64 (n : Int) 7 = ((n / 128 : Nat) : Int) := ishr_nat (k := .u64) n 7 (by decide)
   rw [loop_nxt (s' := (a0 ++ [((n % 128 + 128 : Nat) : Int)], ((n / 128 : Nat) : Int))) (by
    show column_Uint_l1 a0 (n : Int) = _
    unfold column_Uint_l1
    rw [if_pos (by simp only [decide_eq_true_eq]; omega), lt_, e1, lt_, e2, chk_pos (by simp; omega), lt_, e3])]
   have := ih (n / 128) (by omega) (a0 ++ [((n % 128 + 128 : Nat) : Int)]) (by omega) (by simp; omega)
   unfold column_Uint at this
   rw [this, uv_large hn]
   simp
def zz (i : Int) : Nat := if i < 0 then (-(i + 1)).toNat * 2 + 1 else i.toNat * 2
def uz (n : Nat) : Int := if n % 2 = 1 then -((n / 2 : Nat) : Int) - 1 else ((n / 2 : Nat) : Int)
theorem uz_zz (i : Int) : uz (zz i) = i := by unfold uz zz; split <;> split <;> omega
def i64 (i : Int) : Prop := -9223372036854775808 ≤ i ∧ i ≤ 9223372036854775807
theorem zz_lt {i : Int} (h : i64 i) : zz i < 18446744073709551616 := by
 unfold i64 at h
 unfold zz; split <;> omega
theorem xor_ones {a : Nat} (h : a < 18446744073709551616) : ixor .u64 (a : Int) 18446744073709551615 = ((18446744073709551615 - a : Nat) : Int) := by
 show IntKind.u64.wrap (((BitVec.ofInt 64 (a : Int) ^^^ BitVec.allOnes 64).toNat : Nat) : Int) = _
 rw [ofInt_nat, BitVec.xor_allOnes, u64_nat, BitVec.toNat_not, BitVec.toNat_ofNat, Nat.mod_eq_of_lt (show a < 2 ^ 64 by omega)]
 omega
theorem zz_eq {i : Int} (h : i64 i) : ixor .u64 (IntKind.u64.wrap (ishl .i64 i 1)) (IntKind.u64.wrap (ishr .i64 i 63)) = (zz i : Int) := by
 unfold i64 at h
 have e1 : ishl .i64 i 1 = IntKind.i64.wrap (i * 2) := rfl
 have e2 : ishr .i64 i 63 = if i < 0 then -1 else 0 := by
  unfold ishr
  rw [show (63 : Int).toNat = 63 from rfl, show min 63 IntKind.i64.bits = 63 from rfl, Int.fdiv_eq_ediv_of_nonneg _ (by decide)]
  split <;> omega
 rw [e1, e2]
 have e3 : IntKind.u64.wrap (IntKind.i64.wrap (i * 2)) = (i * 2) % 18446744073709551616 := by
  rw [IntKind.wrap_u64, IntWalk.i64_left]; unfold wrap64; omega
 rw [e3]
 unfold zz
 by_cases hi : i < 0
 ·rw [if_pos hi, if_pos hi, show IntKind.u64.wrap (-1) = 18446744073709551615 from rfl]
  obtain ⟨m, hm⟩ : ∃ m : Nat, (i * 2) % 18446744073709551616 = (m : Int) := ⟨((i * 2) % 18446744073709551616).toNat, by omega⟩
  rw [hm, xor_ones (by omega)]
  omega
 ·rw [if_neg hi, if_neg hi, show IntKind.u64.wrap 0 = ((0 : Nat) : Int) from rfl]
  obtain ⟨m, hm⟩ : ∃ m : Nat, (i * 2) % 18446744073709551616 = (m : Int) := ⟨((i * 2) % 18446744073709551616).toNat, by omega⟩
  rw [hm, ixor_u64 (by omega) (by omega), Nat.xor_zero]
  omega
theorem Int_app {i : Int} (h : i64 i) (a0 : List Int) (hl : a0.length + 10 ≤ 140737488355328) : column_Int a0 i = some (a0 ++ uv (zz i)) := by
 unfold column_Int
 have := uv_length64 (zz_lt h)
 simp only [lt_, zz_eq h, Uint_app _ a0 (zz_lt h) (by omega), Option.bind_some]
theorem Text_app (s : List UInt8) (a0 : List Int) (hs : s.length ≤ 9223372036854775807) (hl : a0.length + s.length + 10 ≤ 140737488355328) : column_Text a0 s = some (a0 ++ uv s.length ++ stb s) := by
 unfold column_Text
 have := uv_length64 (n := s.length) (by omega)
 rw [lt_, u64w (by omega) (by omega), Uint_app _ a0 (by omega) (by omega)]
 simp only [Option.bind_some]
 rw [chk_pos (by simp; omega)]
def Bs (xs : List Int) : Prop := ∀ b ∈ xs, 0 ≤ b ∧ b < 256
theorem Bs.nil : Bs [] := fun _ h => by cases h
theorem Bs.cons {b : Int} {xs : List Int} (h : Bs (b :: xs)) : (0 ≤ b ∧ b < 256) ∧ Bs xs := ⟨h b List.mem_cons_self, fun c hc => h c (List.mem_cons_of_mem _ hc)⟩
theorem Bs.mk {b : Int} {xs : List Int} (hb : 0 ≤ b ∧ b < 256) (h : Bs xs) : Bs (b :: xs) := fun c hc => by
 rcases List.mem_cons.1 hc with rfl | hc
 ·exact hb
 ·exact h c hc
theorem Bs.app {xs ys : List Int} (h : Bs xs) (h' : Bs ys) : Bs (xs ++ ys) := fun c hc => (List.mem_append.1 hc).elim (h c) (h' c)
theorem Bs.l {xs ys : List Int} (h : Bs (xs ++ ys)) : Bs xs := fun c hc => h c (List.mem_append.2 (.inl hc))
theorem Bs.r {xs ys : List Int} (h : Bs (xs ++ ys)) : Bs ys := fun c hc => h c (List.mem_append.2 (.inr hc))
theorem Bs.drop {xs : List Int} (h : Bs xs) (n : Nat) : Bs (xs.drop n) := fun c hc => h c (List.mem_of_mem_drop hc)
theorem Bs.take {xs : List Int} (h : Bs xs) (n : Nat) : Bs (xs.take n) := fun c hc => h c (List.mem_of_mem_take hc)
theorem Bs.uv (n : Nat) : Bs (uv n) := by
 induction n using Nat.strongRecOn with
 | _ n ih =>
  by_cases hn : n < 128
  ·rw [uv_small hn]; exact Bs.mk (by omega) Bs.nil
  ·rw [uv_large hn]; exact Bs.mk (by omega) (ih _ (by omega))
theorem Bs.stb (s : List UInt8) : Bs (stb s) := by
 intro c hc
 unfold E.stb at hc
 obtain ⟨b, _, rfl⟩ := List.mem_map.1 hc
 have := b.toNat_lt
 omega
def pB : List Int → Option (Int × List Int)
 | [] => none
 | b :: r => some (b, r)
def pV (i n : Nat) : List Int → Option (Nat × List Int)
 | [] => none
 | b :: r => if i < 9 ∨ (i = 9 ∧ b < 2) then
   (if b < 128 then (if i = 0 ∨ 0 < b then some (n + b.toNat % 128 * 2 ^ (7 * i), r) else none) else pV (i + 1) (n + b.toNat % 128 * 2 ^ (7 * i)) r)
  else none
def pU (most : Int) (xs : List Int) : Option (Int × List Int) := match pV 0 0 xs with
 | some (n, r) => if (n : Int) ≤ most then some ((n : Int), r) else none
 | none => none
def pI (xs : List Int) : Option (Int × List Int) := match pU 18446744073709551615 xs with
 | some (n, r) => some (uz n.toNat, r)
 | none => none
def pT (most : Int) (xs : List Int) : Option (List UInt8 × List Int) := match pU (IntKind.u64.wrap most) xs with
 | some (n, r) => if n ≤ (r.length : Int) then some (bts (r.take n.toNat), r.drop n.toNat) else none
 | none => none
def IsR {ρ : Type} (o : Option ((ρ × S121) ⊕ S121)) (p : Option (ρ × List Int)) : Prop :=
 match p with
 | some (a, r) => o = some (.inl (a, ⟨r⟩))
 | none => ∃ s, o = some (.inr s)
theorem IsR.cases {ρ : Type} {o : Option ((ρ × S121) ⊕ S121)} {p : Option (ρ × List Int)} (h : IsR o p) : (∃ a r, p = some (a, r) ∧ o = some (.inl (a, ⟨r⟩))) ∨ (p = none ∧ ∃ s, o = some (.inr s)) := by
 unfold IsR at h
 split at h
 ·exact .inl ⟨_, _, rfl, h⟩
 ·exact .inr ⟨rfl, h⟩
theorem s_inl {α β γ : Type} (a : α) (f : α → Option γ) (g : β → Option γ) : sum_ (.inl a) f g = f a := rfl
theorem Check_t (s : S121) : column_Reader_Check s true = some (.inl s) := rfl
theorem Check_f (s : S121) : column_Reader_Check s false = some (.inr s) := rfl
theorem Byte_is (xs : List Int) : IsR (column_Reader_Byte ⟨xs⟩) (pB xs) := by
 unfold column_Reader_Byte
 cases xs with
 | nil => exact ⟨_, rfl⟩
 | cons b r =>
  rw [show decide (0 < (((⟨b :: r⟩ : S121).f0.length : Nat) : Int)) = true by simp, Check_t]
  simp only [Option.bind_some, s_inl]
  have h1 : at_ (b :: r) 0 = some b := rfl
  have h2 : cut_ (b :: r) 1 ((b :: r).length : Int) = some r := by
   have := cut_nat (xs := b :: r) (l := 1) (u := (b :: r).length) (by simp) (Nat.le_refl _)
   rw [show ((1 : Nat) : Int) = 1 from rfl, List.take_length] at this
   exact this
  rw [h1]
  simp only [Option.bind_some]
  rw [h2]
  rfl
theorem and_127 (a : Nat) : a &&& 127 = a % 128 := Nat.and_two_pow_sub_one_eq_mod a 7
theorem pV_lt : ∀ (xs : List Int) (i n m : Nat) (r : List Int), n < 2 ^ (7 * i) → n < 18446744073709551616 → pV i n xs = some (m, r) → m < 18446744073709551616 ∧ ∃ p, xs = p ++ r ∧ 0 < p.length
 | [], i, n, m, r, _, _, h => by cases h
 | b :: xs, i, n, m, r, h1, h2, h => by
  unfold pV at h
  split at h
  ·rename_i hc
   have hlt : n + b.toNat % 128 * 2 ^ (7 * i) < 18446744073709551616 ∧ n + b.toNat % 128 * 2 ^ (7 * i) < 2 ^ (7 * (i + 1)) := by
    have hp : 2 ^ (7 * (i + 1)) = 128 * 2 ^ (7 * i) := by rw [show 7 * (i + 1) = 7 + 7 * i by omega, Nat.pow_add]
    have hm : b.toNat % 128 * 2 ^ (7 * i) ≤ 127 * 2 ^ (7 * i) := Nat.mul_le_mul_right _ (by omega)
    refine ⟨?_, by rw [hp]; omega⟩
    rcases hc with hc | ⟨hc, hb⟩
    ·have : 2 ^ (7 * i) ≤ 2 ^ 56 := Nat.pow_le_pow_right (by decide) (by omega)
     omega
    ·subst hc
     have : b.toNat % 128 * 2 ^ (7 * 9) ≤ 1 * 2 ^ (7 * 9) := Nat.mul_le_mul_right _ (by omega)
     omega
   split at h
   ·split at h
    ·cases h
     exact ⟨hlt.1, [b], rfl, by simp⟩
    ·cases h
   ·obtain ⟨q1, p, rfl, q3⟩ := pV_lt xs (i + 1) _ m r hlt.2 hlt.1 h
    exact ⟨q1, b :: p, rfl, by simp⟩
  ·cases h
theorem Uloop (most : Int) : ∀ (xs : List Int) (i n : Nat), Bs xs → i ≤ 10 → n < 2 ^ (7 * i) → n < 18446744073709551616 →
  IsR (loop (fun s : List Int × Int × Int => column_Reader_Uint_l1 most s.1 s.2.1 s.2.2) (xs, (n : Int), (i : Int))) (match pV i n xs with | some (m, r) => if (m : Int) ≤ most then some ((m : Int), r) else none | none => none)
 | [], i, n, hB, hi, h1, h2 => ⟨⟨[]⟩, loop_end rfl⟩
 | b :: xs, i, n, hB, hi, h1, h2 => by
  obtain ⟨hb, hB'⟩ := hB.cons
  generalize hpv : pV i n (b :: xs) = pv
  have hby : column_Reader_Byte ⟨b :: xs⟩ = some (.inl (b, ⟨xs⟩)) := Byte_is (b :: xs)
  obtain ⟨c, rfl⟩ : ∃ c : Nat, b = (c : Int) := ⟨b.toNat, by omega⟩
  have hcase : (c : Int) < 128 ∨ 128 ≤ (c : Int) := by omega
  by_cases hc : i < 9 ∨ (i = 9 ∧ (c : Int) < 2)
  · -- the byte is taken
   have hp : 2 ^ (7 * (i + 1)) = 128 * 2 ^ (7 * i) := by rw [show 7 * (i + 1) = 7 + 7 * i by omega, Nat.pow_add]
   have hm : c % 128 * 2 ^ (7 * i) ≤ 127 * 2 ^ (7 * i) := Nat.mul_le_mul_right _ (by omega)
   have hlt : c % 128 * 2 ^ (7 * i) < 18446744073709551616 ∧ n + c % 128 * 2 ^ (7 * i) < 18446744073709551616 := by
    rcases hc with hc | ⟨hc, hb⟩
    ·have : 2 ^ (7 * i) ≤ 2 ^ 56 := Nat.pow_le_pow_right (by decide) (by omega)
     omega
    ·subst hc
     have : c % 128 * 2 ^ (7 * 9) ≤ 1 * 2 ^ (7 * 9) := Nat.mul_le_mul_right _ (by omega)
     omega
   have hlt2 : n + c % 128 * 2 ^ (7 * i) < 2 ^ (7 * (i + 1)) := by rw [hp]; omega
   obtain ⟨m, hm'⟩ : ∃ m, m = n + c % 128 * 2 ^ (7 * i) := ⟨_, rfl⟩
   have e1 : iand .u8 (c : Int) 127 = ((c % 128 : Nat) : Int) := by
    have := iand_u8 (a := c) (b := 127) (by omega) (by omega)
    rw [show ((127 : Nat) : Int) = 127 from rfl] at this
    rw [this, and_127]
   have e2 : IntKind.i64.wrap (7 * (i : Int)) = ((7 * i : Nat) : Int) := by rw [w64 (by omega) (by omega)]; omega
   have e3 : ishl .u64 ((c % 128 : Nat) : Int) ((7 * i : Nat) : Int) = ((c % 128 * 2 ^ (7 * i) : Nat) : Int) := by
    rw [ishl_u64 _ _ (by omega), Nat.mod_eq_of_lt hlt.1]
   have e4 : ior .u64 (n : Int) ((c % 128 * 2 ^ (7 * i) : Nat) : Int) = (m : Int) := by rw [ior_u64 h2 hlt.1, or_top h1, hm']
   have hl1 : column_Reader_Uint_l1 most ((c : Int) :: xs) (n : Int) (i : Int) = column_Reader_Uint_j1 most (n : Int) (i : Int) ((c : Int), ⟨xs⟩) xs := by
    unfold column_Reader_Uint_l1
    rw [hby]
    simp only [Option.bind_some, s_inl]
    rcases hc with hc | ⟨hc, hc2⟩
    ·rw [if_pos (by simp only [decide_eq_true_eq]; omega), Check_t]; rfl
    ·rw [if_neg (by simp only [decide_eq_true_eq]; omega), if_pos (by subst hc; rfl), show decide ((c : Int) < 2) = true by simpa using hc2, Check_t]; rfl
   have hj : column_Reader_Uint_j1 most (n : Int) (i : Int) ((c : Int), ⟨xs⟩) xs = if (c : Int) < 128 then (if (m : Int) ≤ most ∧ (i = 0 ∨ 0 < (c : Int)) then some (.inr (.inl ((m : Int), ⟨xs⟩))) else some (.inr (.inr ⟨xs⟩))) else some (.inl (xs, (m : Int), ((i + 1 : Nat) : Int))) := by
    unfold column_Reader_Uint_j1
    simp only [lt_]
    rw [e1, u64w (by omega) (by omega), e2, chk_pos (by omega), e3, e4]
    by_cases hc1 : (c : Int) < 128
    ·rw [if_pos (by simpa using hc1), if_pos hc1]
     by_cases hmo : (m : Int) ≤ most
     ·rw [if_pos (by simpa using hmo)]
      by_cases hi0 : i = 0
      ·subst hi0
       rw [if_pos (by rfl), Check_t, if_pos ⟨hmo, .inl rfl⟩]
       rfl
      ·rw [if_neg (by simpa using hi0)]
       by_cases hc0 : 0 < (c : Int)
       ·rw [show decide (0 < (c : Int)) = true by simpa using hc0, Check_t, if_pos ⟨hmo, .inr hc0⟩]; rfl
       ·rw [show decide (0 < (c : Int)) = false by simpa using hc0, Check_f, if_neg (by rintro ⟨_, q | q⟩; exact hi0 q; exact hc0 q)]; rfl
     ·rw [if_neg (by simpa using hmo), Check_f, if_neg (fun q => hmo q.1)]; rfl
    ·rw [if_neg (by simpa using hc1), if_neg hc1, w64 (by omega) (by omega)]; rfl
   rw [pV, if_pos hc, Int.toNat_natCast, ← hm'] at hpv
   rcases hcase with hc1 | hc1
   ·rw [if_pos hc1] at hj hpv
    by_cases h0 : i = 0 ∨ 0 < (c : Int)
    ·rw [if_pos h0] at hpv
     subst hpv
     simp only
     by_cases hmo : (m : Int) ≤ most
     ·rw [if_pos ⟨hmo, h0⟩] at hj
      rw [if_pos hmo]
      exact loop_end (hl1.trans hj)
     ·rw [if_neg (fun q => hmo q.1)] at hj
      rw [if_neg hmo]
      exact ⟨_, loop_end (hl1.trans hj)⟩
    ·rw [if_neg h0] at hpv
     subst hpv
     rw [if_neg (fun q => h0 q.2)] at hj
     exact ⟨_, loop_end (hl1.trans hj)⟩
   ·rw [if_neg (Int.not_lt.2 hc1)] at hj hpv
    rw [loop_nxt (hl1.trans hj)]
    subst hpv
    exact Uloop most xs (i + 1) m hB' (by omega) (by rw [hm']; exact hlt2) (by rw [hm']; exact hlt.2)
  ·rw [pV, if_neg hc] at hpv
   subst hpv
   refine ⟨_, loop_end (t := Sum.inr ⟨xs⟩) ?_⟩
   show column_Reader_Uint_l1 most ((c : Int) :: xs) (n : Int) (i : Int) = _
   unfold column_Reader_Uint_l1
   rw [hby]
   simp only [Option.bind_some, s_inl]
   rw [if_neg (by simp only [decide_eq_true_eq]; omega)]
   by_cases hi9 : i = 9
   ·rw [if_pos (by subst hi9; rfl), show decide ((c : Int) < 2) = false by simp; omega, Check_f]; rfl
   ·rw [if_neg (by simp; omega), Check_f]; rfl
theorem Uint_is (most : Int) {xs : List Int} (hB : Bs xs) : IsR (column_Reader_Uint ⟨xs⟩ most) (pU most xs) := by
 unfold column_Reader_Uint pU
 have := Uloop most xs 0 0 hB (by omega) (by simp) (by omega)
 simp only [Int.natCast_zero] at this
 rcases this.cases with ⟨a, r, h1, h2⟩ | ⟨h1, s, h2⟩
 ·rw [h1]; show _ = _; rw [h2]; rfl
 ·rw [h1]; exact ⟨s, by rw [h2]; rfl⟩
theorem pU_some {most : Int} {xs r : List Int} {n : Int} (h : pU most xs = some (n, r)) : (0 ≤ n ∧ n < 18446744073709551616 ∧ n ≤ most) ∧ ∃ p, xs = p ++ r ∧ 0 < p.length := by
 unfold pU at h
 split at h
 ·rename_i m r' he
  split at h
  ·cases h
   obtain ⟨h1, h2⟩ := pV_lt _ _ _ _ _ (by simp) (by omega) he
   exact ⟨⟨by omega, by omega, by assumption⟩, h2⟩
  ·cases h
 ·cases h
theorem and_1 (a : Nat) : a &&& 1 = a % 2 := Nat.and_two_pow_sub_one_eq_mod a 1
theorem xor_m1 {a : Nat} (h : a < 9223372036854775808) : ixor .i64 (a : Int) (-1) = -(a : Int) - 1 := by
 show IntKind.i64.wrap (((BitVec.ofInt 64 (a : Int) ^^^ BitVec.allOnes 64).toNat : Nat) : Int) = _
 rw [ofInt_nat, BitVec.xor_allOnes, BitVec.toNat_not, BitVec.toNat_ofNat, Nat.mod_eq_of_lt (show a < 2 ^ 64 by omega), IntWalk.i64_left]
 unfold wrap64
 omega
theorem xor_0 {a : Nat} (h : a < 9223372036854775808) : ixor .i64 (a : Int) 0 = (a : Int) := by
 show IntKind.i64.wrap (((BitVec.ofInt 64 (a : Int) ^^^ 0#64).toNat : Nat) : Int) = _
 rw [ofInt_nat, BitVec.xor_zero, BitVec.toNat_ofNat, Nat.mod_eq_of_lt (show a < 2 ^ 64 by omega), w64 (by omega) (by omega)]
theorem uz_eq {n : Nat} (h : n < 18446744073709551616) : ixor .i64 (IntKind.i64.wrap (ishr .u64 (n : Int) 1)) (IntKind.i64.wrap (0 - IntKind.i64.wrap (iand .u64 (n : Int) 1))) = uz n := by
 have e1 : ishr .u64 (n : Int) 1 = ((n / 2 : Nat) : Int) := ishr_nat (k := .u64) n 1 (by decide)
 have e2 : iand .u64 (n : Int) 1 = ((n % 2 : Nat) : Int) := by
  have := iand_u64 (a := n) (b := 1) h (by omega)
  rw [show ((1 : Nat) : Int) = 1 from rfl] at this
  rw [this, and_1]
 rw [e1, e2, w64 (n := ((n / 2 : Nat) : Int)) (by omega) (by omega), w64 (n := ((n % 2 : Nat) : Int)) (by omega) (by omega), w64 (by omega) (by omega)]
 unfold uz
 by_cases ho : n % 2 = 1
 ·rw [if_pos ho, ho, show (0 : Int) - ((1 : Nat) : Int) = -1 from rfl, xor_m1 (by omega)]
 ·rw [if_neg ho, show n % 2 = 0 by omega, show (0 : Int) - ((0 : Nat) : Int) = 0 from rfl, xor_0 (by omega)]
theorem Int_is {xs : List Int} (hB : Bs xs) : IsR (column_Reader_Int ⟨xs⟩) (pI xs) := by
 unfold column_Reader_Int pI
 rcases (Uint_is 18446744073709551615 hB).cases with ⟨a, r, h1, h2⟩ | ⟨h1, s, h2⟩
 ·rw [h1, h2]
  obtain ⟨⟨q1, q2, _⟩, _⟩ := pU_some h1
  simp only [Option.bind_some, s_inl, lt_]
  have := uz_eq (n := a.toNat) (by omega)
  rw [show ((a.toNat : Nat) : Int) = a by omega] at this
  show _ = _
  rw [this]
 ·rw [h1, h2]
  exact ⟨s, rfl⟩
theorem Text_is (most : Int) {xs : List Int} (hB : Bs xs) (hl : xs.length < 9223372036854775808) : IsR (column_Reader_Text ⟨xs⟩ most) (pT most xs) := by
 unfold column_Reader_Text pT
 rw [lt_]
 rcases (Uint_is (IntKind.u64.wrap most) hB).cases with ⟨a, r, h1, h2⟩ | ⟨h1, s, h2⟩
 ·rw [h1, h2]
  obtain ⟨⟨q1, q2, _⟩, p, hp, _⟩ := pU_some h1
  have hr : r.length ≤ xs.length := by rw [hp]; simp
  simp only [Option.bind_some, s_inl, lt_]
  rw [u64w (by omega) (by omega)]
  obtain ⟨n, rfl⟩ : ∃ n : Nat, a = (n : Int) := ⟨a.toNat, by omega⟩
  by_cases hn : (n : Int) ≤ (r.length : Int)
  ·rw [show decide ((n : Int) ≤ (r.length : Int)) = true by simpa using hn, Check_t, if_pos hn]
   simp only [Option.bind_some, s_inl]
   have c1 := cut_nat (xs := r) (l := 0) (u := n) (by omega) (by omega)
   have c2 := cut_nat (xs := r) (l := n) (u := r.length) (by omega) (by omega)
   rw [show ((0 : Nat) : Int) = 0 from rfl, List.drop_zero] at c1
   rw [List.take_length] at c2
   rw [c1]
   simp only [Option.bind_some]
   rw [c2]
   rfl
  ·rw [show decide ((n : Int) ≤ (r.length : Int)) = false by simpa using hn, Check_f, if_neg hn]
   exact ⟨_, rfl⟩
 ·rw [h1, h2]
  exact ⟨s, rfl⟩
theorem pV_uv : ∀ (k : Nat) (m i n : Nat) (r : List Int), m < 128 ^ (k + 1) → k + i ≤ 9 → m * 2 ^ (7 * i) + n < 18446744073709551616 → (0 < i → 0 < m) → pV i n (uv m ++ r) = some (n + m * 2 ^ (7 * i), r)
 | k, m, i, n, r, h, hi, hlt, h0 => by
  by_cases hm : m < 128
  ·rw [uv_small hm, List.singleton_append, pV]
   have h9 : i < 9 ∨ (i = 9 ∧ (m : Int) < 2) := by
    rcases Nat.lt_or_ge i 9 with q | q
    ·exact .inl q
    ·have : i = 9 := by omega
     subst this
     refine .inr ⟨rfl, ?_⟩
     rcases Nat.lt_or_ge m 2 with q2 | q2
     ·omega
     ·have : 2 * 2 ^ (7 * 9) ≤ m * 2 ^ (7 * 9) := Nat.mul_le_mul_right _ q2
      omega
   rw [if_pos h9, if_pos (by omega), if_pos (by rcases Nat.eq_zero_or_pos i with q | q; exact .inl q; have := h0 q; exact .inr (by omega)), Int.toNat_natCast, Nat.mod_eq_of_lt hm]
  ·rw [uv_large hm, List.cons_append, pV]
   match k, h, hi with
   | 0, h, _ => exact absurd (by simpa using h) hm
   | k + 1, h, hi =>
    rw [if_pos (.inl (by omega)), if_neg (by omega), Int.toNat_natCast, show (m % 128 + 128) % 128 = m % 128 by omega]
    have hp : 2 ^ (7 * (i + 1)) = 128 * 2 ^ (7 * i) := by rw [show 7 * (i + 1) = 7 + 7 * i by omega, Nat.pow_add]
    have hdiv : m / 128 * (128 * 2 ^ (7 * i)) + m % 128 * 2 ^ (7 * i) = m * 2 ^ (7 * i) := by
     rw [← Nat.mul_assoc, ← Nat.add_mul]
     congr 1
     omega
    rw [pV_uv k (m / 128) (i + 1) _ r (by rw [Nat.pow_succ] at h; exact Nat.div_lt_of_lt_mul (by rw [Nat.mul_comm]; exact h)) (by omega) (by rw [hp]; omega) (fun _ => by omega), hp]
    congr 2
    omega
theorem pU_uv {m : Nat} (h : m < 18446744073709551616) (r : List Int) {most : Int} (hm : (m : Int) ≤ most) : pU most (uv m ++ r) = some ((m : Int), r) := by
 unfold pU
 rw [pV_uv 9 m 0 0 r (by omega) (by omega) (by simp; omega) (fun q => absurd q (by omega))]
 simp only [Nat.mul_zero, Nat.pow_zero, Nat.mul_one, Nat.zero_add]
 rw [if_pos hm]
theorem pI_uv {x : Int} (h : i64 x) (r : List Int) : pI (uv (zz x) ++ r) = some (x, r) := by
 unfold pI
 have := zz_lt h
 rw [pU_uv this r (by omega)]
 simp only [Int.toNat_natCast, uz_zz]
def bl (n : Nat) : Nat := if h : n = 0 then 0 else bl (n / 2) + 1
termination_by n
decreasing_by omega
def V (w : Nat) : List Nat → Nat
 | [] => 0
 | d :: ds => d + 2 ^ w * V w ds
def Lt (w : Nat) (ds : List Nat) : Prop := ∀ d ∈ ds, d < 2 ^ w
theorem Lt.tail {w d : Nat} {ds : List Nat} (h : Lt w (d :: ds)) : d < 2 ^ w ∧ Lt w ds := ⟨h d List.mem_cons_self, fun x hx => h x (List.mem_cons_of_mem _ hx)⟩
def by_ (m v : Nat) : List Nat := (List.range m).map fun j => v / 2 ^ (8 * j) % 256
def b0 (l : List Int) : List Int := (l.map fun x => uv (zz x)).flatten
def bD : Int → List Int → List Int
 | _, [] => []
 | a, x :: l => uv (zz (IntKind.i64.wrap (x - a))) ++ bD x l
def bR : Nat → List Int → List Int
 | _, [] => []
 | k, [x] => uv (zz x) ++ uv k
 | k, x :: y :: l => if y = x then bR (k + 1) (y :: l) else uv (zz x) ++ uv k ++ bR 0 (y :: l)
def mn : Int → List Int → Int
 | m, [] => m
 | m, x :: l => mn (if x < m then x else m) l
def ds (lo : Int) (l : List Int) : List Nat := l.map fun x => (x - lo).toNat
def wdt (D : List Nat) : Nat := D.foldl (fun w d => if w < bl d then bl d else w) 0
def ofN (l : List Nat) : List Int := l.map fun (n : Nat) => (n : Int)
def pk : List Int → List Int
 | [] => []
 | x :: l => uv (zz (mn x l)) ++ [(wdt (ds (mn x l) (x :: l)) : Int)] ++ ofN (by_ (((x :: l).length * wdt (ds (mn x l) (x :: l)) + 7) / 8) (V (wdt (ds (mn x l) (x :: l))) (ds (mn x l) (x :: l))))
def body : Nat → List Int → List Int
 | 0, l => b0 l
 | 1, l => bD 0 l
 | 2, l => bR 0 l
 | _, l => pk l
def I64 (l : List Int) : Prop := ∀ x ∈ l, i64 x
theorem I64.get {l : List Int} (h : I64 l) {i : Nat} {x : Int} (hx : l[i]? = some x) : i64 x := h x (List.mem_of_getElem? hx)
theorem I64.take {l : List Int} (h : I64 l) (k : Nat) : I64 (l.take k) := fun x hx => h x (List.mem_of_mem_take hx)
section
variable {l pre : List Int} (hl : l.length ≤ 4096) (hi : I64 l) (hp : pre.length ≤ 20)
include hl hi hp
end
section
variable {l pre : List Int} (hl : l.length ≤ 4096) (hi : I64 l) (hp : pre.length ≤ 20)
include hl hi hp
end
theorem sh {n k : Nat} (hk : k ≤ 64) : ishr .u64 (n : Int) (k : Int) = ((n / 2 ^ k : Nat) : Int) := ishr_nat (k := .u64) n k hk
section
variable {l : List Int} {lo : Int} {w : Nat} (hl : l.length ≤ 4096) (hi : I64 l) (hlo : i64 lo) (hle : ∀ x ∈ l, lo ≤ x) (hw : w ≤ 64) (hL : Lt w (ds lo l))
include hl hi hlo hle hw hL
end
section
variable {l : List Int} {lo : Int} {w : Nat} (hl : l.length ≤ 4096) (hi : I64 l) (hlo : i64 lo) (hle : ∀ x ∈ l, lo ≤ x) (hw : w ≤ 64) (hL : Lt w (ds lo l)) {pre : List Int} (hp : pre.length ≤ 100)
include hl hi hlo hle hw hL hp
end
section
variable {l : List Int} {lo : Int} (hl : l.length ≤ 4096) (hi : I64 l) (hlo : i64 lo) (hle : ∀ x ∈ l, lo ≤ x)
include hl hi hlo hle
end
theorem Bs.ofN {D : List Nat} (h : Lt 8 D) : Bs (ofN D) := by
 intro b hb
 obtain ⟨d, hd, rfl⟩ := List.mem_map.1 hb
 have := h d hd
 omega
def nanB (a : Nat) : Bool := a / 4503599627370496 % 2048 == 2047 && a % 4503599627370496 != 0
theorem order_self (d : Ieee.Datum) : (d.order d == some .eq) = !d.isNaN := by
 cases d with
 | number s m p => simp [Ieee.Datum.order, Ieee.Datum.isNaN]
 | infinity s => simp [Ieee.Datum.order, Ieee.Datum.isNaN]
 | nan s f => simp [Ieee.Datum.order, Ieee.Datum.isNaN]
theorem feq_self (a : Nat) : feq a a = !nanB a := by
 unfold feq Ieee.Format.order
 rw [order_self]
 congr 1
 unfold Ieee.Format.read nanB
 have e1 : FloatKind.f64.format.signWeight = 9223372036854775808 := by decide
 have e2 : FloatKind.f64.format.binade = 4503599627370496 := by decide
 have e3 : FloatKind.f64.format.infRung = 9218868437227405312 := by decide
 simp only [e1, e2, e3]
 rw [Bool.eq_iff_iff]
 simp only [Bool.and_eq_true, beq_iff_eq, bne_iff_ne, ne_eq]
 split
 ·simp [Ieee.Datum.isNaN]; omega
 ·split
  ·simp [Ieee.Datum.isNaN]; omega
  ·split
   ·simp [Ieee.Datum.isNaN]; omega
   ·simp [Ieee.Datum.isNaN]; omega
def canon (a : Nat) : Nat := if nanB a then 9221120237041090560 else a
theorem canon_canon (a : Nat) : canon (canon a) = canon a := by
 unfold canon
 cases h : nanB a with
 | true => rw [if_pos rfl, if_pos (by decide)]
 | false => simp [h]
theorem canon_lt {a : Nat} (h : a < 18446744073709551616) : canon a < 18446744073709551616 := by
 unfold canon; split <;> omega
theorem cCanon_eq (a : Nat) : real_Canon a = some (canon a) := by
 unfold real_Canon math_IsNaN canon
 simp only [Option.bind_some, feq_self]
 cases nanB a <;> rfl
theorem cBits_eq (a : Nat) : real_Bits a = some (canon a : Int) := by
 unfold real_Bits
 rw [cCanon_eq]; rfl
theorem cOf_eq (a : Int) : real_Of a = some (canon a.toNat) := by
 unfold real_Of
 rw [cCanon_eq]; rfl
def IsT (B acc : List Int) (t : List Int × Int × List Int) (p : Option (List Int × List Int)) : Prop :=
 match p with
 | some (l, r) => ∃ q : Nat, t = (B, (q : Int), acc ++ l) ∧ q ≤ B.length ∧ B.drop q = r
 | none => ∃ a, t = (B, -1, a)
theorem IsT.cons {B acc : List Int} {t : List Int × Int × List Int} {p : Option (List Int × List Int)} (x : List Int) (h : IsT B (acc ++ x) t p) :
  IsT B acc t (match (generalizing := false) p with | some (l, r) => some (x ++ l, r) | none => none) := by
 cases p with
 | none => exact h
 | some y =>
  obtain ⟨q, h1, h2, h3⟩ := h
  exact ⟨q, by rw [h1, List.append_assoc], h2, h3⟩
section
variable {B : List Int} (hBs : Bs B) (hB : B.length < 1099511627776)
include hBs hB
end
section
variable {B : List Int} (hBs : Bs B) (hB : B.length < 1099511627776)
include hBs hB
end
section
variable {B xs : List Int} {p : Nat} (hp : p ≤ B.length) (hx : B.drop p = xs) (hBs : Bs xs) (hB : B.length < 1099511627776) (hs : xs.length ≤ 32768)
include hp hx hBs hB hs
end
structure SWO {α : Type} (lt : α → α → Bool) : Prop where
 irr : ∀ a, lt a a = false
 trans : ∀ a b c, lt a b = true → lt b c = true → lt a c = true
 neg : ∀ a b c, lt a c = true → lt a b = true ∨ lt b c = true
section
variable {α : Type} {lt : α → α → Bool}
def ins (lt : α → α → Bool) (x : α) : List α → List α
 | [] => [x]
 | y :: l => if lt x y then x :: y :: l else y :: ins lt x l
def sortL (lt : α → α → Bool) (l : List α) : List α := l.foldl (fun acc x => ins lt x acc) []
theorem ins_length (x : α) : ∀ l : List α, (ins lt x l).length = l.length + 1
 | [] => rfl
 | y :: l => by unfold ins; split <;> simp [ins_length x l]
theorem foldl_length : ∀ (l acc : List α), (l.foldl (fun acc x => ins lt x acc) acc).length = acc.length + l.length
 | [], acc => by simp
 | x :: l, acc => by rw [List.foldl_cons, foldl_length l, ins_length]; simp; omega
theorem sortL_length (l : List α) : (sortL lt l).length = l.length := by unfold sortL; rw [foldl_length]; simp
end
end Go.Proofs.YtffdckhgkhhbjaaGreatDoor.P
