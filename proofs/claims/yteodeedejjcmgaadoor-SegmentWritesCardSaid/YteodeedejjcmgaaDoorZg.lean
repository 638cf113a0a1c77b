/- Texts of the claim, joined: what it uses of Drs, Mrs, Drn, Mrn, Dsh, Msh, DlSegmentWrites, MlSegmentWrites, LSegmentWrites, Qa, Qb, Qc, Qd, Qe, Qf. -/
import Derived.Test.YteodeedejjcmgaaDoorZf
import Derived.Test.YteodeedejjcmgaaDoorCards
import Derived.Test.YteodeedejjcmgaaDoorTie
import Derived.SevenTiedAt
import Derived.LaidMore
import Derived.OpenShut
import Derived.Stop.Joined
import Derived.ProofKit
import Derived.IntWalk
namespace Go.Proofs.YteodeedejjcmgaaDoor.M
open Go Go.RowKit Go.Proofs.YteodeedejjcmgaaDoor.E
set_option linter.unusedVariables false
set_option linter.unusedSimpArgs false
noncomputable def r07_Write_b2 (a1 : Int) (l26908 : (List Int)) (l26912 : (List Int)) (x26916 : Int) : Option ((List Int) × Int) :=
  ltt (IntKind.u64.wrap a1) fun x26918 => ((r03_Uint x26918).bind fun y26920 => (ltt (IntKind.u64.wrap x26916) fun x26926 => ((r03_Uint x26926).bind fun y26928 => (chk (y26920.length + y26928.length ≤ 140737488355328 / 1) (chk ((y26920 ++ y26928).length + l26912.length ≤ 140737488355328 / 1) ((r04_Lay 102 ((y26920 ++ y26928) ++ l26912)).bind fun y26943 => (chk (l26908.length + y26943.length ≤ 140737488355328 / 1) (ltt (IntKind.u8.wrap (l26908.length : Int)) fun x26953 => (ltt (IntKind.i64.wrap ((l26908.length : Int).tdiv 256)) fun x26955 => (ltt (IntKind.u8.wrap x26955) fun x26957 => (ltt (IntKind.i64.wrap ((l26908.length : Int).tdiv 65536)) fun x26959 => (ltt (IntKind.u8.wrap x26959) fun x26961 => (ltt (IntKind.i64.wrap ((l26908.length : Int).tdiv 16777216)) fun x26963 => (ltt (IntKind.u8.wrap x26963) fun x26965 => ((r04_Lay 116 [x26953, x26957, x26961, x26965]).bind fun y26968 => (chk ((l26908 ++ y26943).length + y26968.length ≤ 140737488355328 / 1) (some ((l26908 ++ y26943) ++ y26968, 0))))))))))))))))))
noncomputable def r07_Write_x1_2 (a1 : Int) (l32849 : (List Int)) (l32853 : (List Int)) (x32857 : Int) : Option ((List Int) × Int) :=
  r07_Write_b2 a1 l32849 l32853 x32857
noncomputable def r07_Write_b3 (l29916 : (List Int)) (l29920 : (List Int)) (x29924 : Int) (x29925 : Int) (l32882 : (List S44)) (x34965 : Int) (x34966 : Int) (s34967 : (List UInt8)) (s34968 : (List UInt8)) : Option (((List Int) × (List Int) × Int × Int) ⊕ (((List Int) × (List Int) × Int))) :=
  ltt (IntKind.u64.wrap (l32882.length : Int)) fun x34970 => ((r03_Uint x34970).bind fun y34972 => (chk (l29920.length + y34972.length ≤ 140737488355328 / 1) (ltt (IntKind.u64.wrap (l29916.length : Int)) fun x34982 => ((r03_Uint x34982).bind fun y34984 => (chk ((l29920 ++ y34972).length + y34984.length ≤ 140737488355328 / 1) ((at_ l32882 0).bind fun x34994 => ((r03_Uint x34994.f0).bind fun y34997 => (chk (((l29920 ++ y34972) ++ y34984).length + y34997.length ≤ 140737488355328 / 1) (ltt (IntKind.i64.wrap ((l32882.length : Int) - 1)) fun x35007 => ((at_ l32882 x35007).bind fun x35009 => ((r03_Uint x35009.f0).bind fun y35012 => (chk ((((l29920 ++ y34972) ++ y34984) ++ y34997).length + y35012.length ≤ 140737488355328 / 1) ((r03_Int x34965).bind fun y35022 => (chk (((((l29920 ++ y34972) ++ y34984) ++ y34997) ++ y35012).length + y35022.length ≤ 140737488355328 / 1) ((r03_Int x34966).bind fun y35032 => (chk ((((((l29920 ++ y34972) ++ y34984) ++ y34997) ++ y35012) ++ y35022).length + y35032.length ≤ 140737488355328 / 1) ((r03_Text s34967).bind fun y35042 => (chk (((((((l29920 ++ y34972) ++ y34984) ++ y34997) ++ y35012) ++ y35022) ++ y35032).length + y35042.length ≤ 140737488355328 / 1) ((r03_Text s34968).bind fun y35052 => (chk ((((((((l29920 ++ y34972) ++ y34984) ++ y34997) ++ y35012) ++ y35022) ++ y35032) ++ y35042).length + y35052.length ≤ 140737488355328 / 1) ((r06_Lay l32882).bind fun y35062 => (chk (l29916.length + y35062.length ≤ 140737488355328 / 1) (ltt (IntKind.i64.wrap (x29924 + 1)) fun x35071 => (ltt (IntKind.i64.wrap (x29925 + 64)) fun x35073 => (some (.inl (l29916 ++ y35062, (((((((l29920 ++ y34972) ++ y34984) ++ y34997) ++ y35012) ++ y35022) ++ y35032) ++ y35042) ++ y35052, x35071, x35073)))))))))))))))))))))))))))
noncomputable def r07_Write_x2_4 (l29916 : (List Int)) (l29920 : (List Int)) (x29924 : Int) (x29925 : Int) (l32882 : (List S44)) (x35534 : Int) (x35535 : Int) (s35536 : (List UInt8)) (s35537 : (List UInt8)) : Option (((List Int) × (List Int) × Int × Int) ⊕ (((List Int) × (List Int) × Int))) :=
  r07_Write_b3 l29916 l29920 x29924 x29925 l32882 x35534 x35535 s35536 s35537
noncomputable def r07_Write_b4 (x35306 : Int) (x35703 : Int) (x35704 : Int) (s35705 : (List UInt8)) (s35706 : (List UInt8)) : Option ((Int × Int × (List UInt8) × (List UInt8) × Int) ⊕ ((Int × Int × (List UInt8) × (List UInt8)))) :=
  ltt (IntKind.i64.wrap (x35306 + 1)) fun x35707 => (some (.inl (x35703, x35704, s35705, s35706, x35707)))
noncomputable def r07_Write_j5 (l32882 : (List S44)) (s35305 : (List UInt8)) (x35306 : Int) (x35716 : Int) (x35724 : Int) (s35732 : (List UInt8)) : Option ((Int × Int × (List UInt8) × (List UInt8) × Int) ⊕ ((Int × Int × (List UInt8) × (List UInt8)))) :=
  (at_ l32882 x35306).bind fun x35734 => (if (!(Op.bytesLess x35734.f3 s35305 || x35734.f3 == s35305)) = true then (r07_Write_b4 x35306 x35716 x35724 s35732 x35734.f3) else (r07_Write_b4 x35306 x35716 x35724 s35732 s35305))
noncomputable def r07_Write_j4 (l32882 : (List S44)) (s35304 : (List UInt8)) (s35305 : (List UInt8)) (x35306 : Int) (x35716 : Int) (x35724 : Int) : Option ((Int × Int × (List UInt8) × (List UInt8) × Int) ⊕ ((Int × Int × (List UInt8) × (List UInt8)))) :=
  (at_ l32882 x35306).bind fun x35740 => (if (Op.bytesLess x35740.f3 s35304) = true then (r07_Write_j5 l32882 s35305 x35306 x35716 x35724 x35740.f3) else (r07_Write_j5 l32882 s35305 x35306 x35716 x35724 s35304))
noncomputable def r07_Write_j3 (l32882 : (List S44)) (x35303 : Int) (s35304 : (List UInt8)) (s35305 : (List UInt8)) (x35306 : Int) (x35716 : Int) : Option ((Int × Int × (List UInt8) × (List UInt8) × Int) ⊕ ((Int × Int × (List UInt8) × (List UInt8)))) :=
  (at_ l32882 x35306).bind fun x35746 => (if (decide (x35303 < x35746.f2)) = true then (r07_Write_j4 l32882 s35304 s35305 x35306 x35716 x35746.f2) else (r07_Write_j4 l32882 s35304 s35305 x35306 x35716 x35303))
noncomputable def r07_Write_l2 (l32882 : (List S44)) (x35302 : Int) (x35303 : Int) (s35304 : (List UInt8)) (s35305 : (List UInt8)) (x35306 : Int) : Option ((Int × Int × (List UInt8) × (List UInt8) × Int) ⊕ ((Int × Int × (List UInt8) × (List UInt8)))) :=
  if (decide (x35306 < (l32882.length : Int))) = true then ((at_ l32882 x35306).bind fun x35752 => (if (decide (x35752.f2 < x35302)) = true then (r07_Write_j3 l32882 x35303 s35304 s35305 x35306 x35752.f2) else (r07_Write_j3 l32882 x35303 s35304 s35305 x35306 x35302))) else (some (.inr (x35302, x35303, s35304, s35305)))
noncomputable def r07_Write_j2 (l29916 : (List Int)) (l29920 : (List Int)) (x29924 : Int) (x29925 : Int) (l32882 : (List S44)) : Option (((List Int) × (List Int) × Int × Int) ⊕ (((List Int) × (List Int) × Int))) :=
  (at_ l32882 0).bind fun x32888 => ((loop (fun s => r07_Write_l2 l32882 s.1 s.2.1 s.2.2.1 s.2.2.2.1 s.2.2.2.2) (x32888.f2, x32888.f2, x32888.f3, x32888.f3, 0)).bind fun t => r07_Write_x2_4 l29916 l29920 x29924 x29925 l32882 t.1 t.2.1 t.2.2.1 t.2.2.2)
noncomputable def r07_Write_l1 (a0 : (List S44)) (l29916 : (List Int)) (l29920 : (List Int)) (x29924 : Int) (x29925 : Int) : Option (((List Int) × (List Int) × Int × Int) ⊕ (((List Int) × (List Int) × Int))) :=
  if (decide (x29925 < (a0.length : Int))) = true then ((cut_ a0 x29925 (a0.length : Int)).bind fun l32865 => (if (decide (64 < (l32865.length : Int))) = true then ((cut_ l32865 0 64).bind fun l35759 => (r07_Write_j2 l29916 l29920 x29924 x29925 l35759)) else (r07_Write_j2 l29916 l29920 x29924 x29925 l32865))) else (some (.inr (l29916, l29920, x29924)))
noncomputable def r07_Write_b1 (a0 : (List S44)) (a1 : Int) : Option ((List Int) × Int) :=
  (loop (fun s => r07_Write_l1 a0 s.1 s.2.1 s.2.2.1 s.2.2.2) ([], [], 0, 0)).bind fun t => r07_Write_x1_2 a1 t.1 t.2.1 t.2.2
noncomputable def r07_Write_x3_0 (a0 : (List S44)) (a1 : Int) : Option ((List Int) × Int) :=
  r07_Write_b1 a0 a1
noncomputable def r07_Write_j6 (x35806 : Int) (b35878 : Bool) : Option ((Int) ⊕ ((Unit) ⊕ ((List Int) × Int))) :=
  if b35878 = true then (some (.inr (.inr ([], 8)))) else (ltt (IntKind.i64.wrap (x35806 + 1)) fun x35881 => (some (.inl (x35881))))
noncomputable def r07_Write_l3 (a0 : (List S44)) (a1 : Int) (x35806 : Int) : Option ((Int) ⊕ ((Unit) ⊕ ((List Int) × Int))) :=
  if (decide (x35806 < (a0.length : Int))) = true then ((at_ a0 x35806).bind fun x35859 => ((r06_Form x35859 a1).bind fun y35862 => (if (!y35862) = true then (some (.inr (.inr ([], 3)))) else ((at_ a0 0).bind fun x35884 => (ltt (IntKind.u64.wrap (x35859.f0 - x35884.f0)) fun x35887 => (ltt (IntKind.u64.wrap x35806) fun x35889 => (if (x35887 != x35889) = true then (r07_Write_j6 x35806 true) else (r07_Write_j6 x35806 (decide (x35859.f0 < x35884.f0)))))))))) else (some (.inr (.inl ())))
noncomputable def r07_Write_j1 (a0 : (List S44)) (a1 : Int) (b106 : Bool) : Option ((List Int) × Int) :=
  if b106 = true then (some ([], 1)) else (if (decide (1024 < (a0.length : Int))) = true then (some ([], 2)) else ((loop (fun s => r07_Write_l3 a0 a1 s) (0)).bind fun t => match t with | (.inl t) => r07_Write_x3_0 a0 a1 | (.inr t) => some t))
noncomputable def r07_Write (a0 : (List S44)) (a1 : Int) : Option ((List Int) × Int) :=
  if ((a0.length : Int) == 0) = true then (r07_Write_j1 a0 a1 true) else (if (decide (a1 < 1)) = true then (r07_Write_j1 a0 a1 true) else (r07_Write_j1 a0 a1 (decide (8 < a1))))
end Go.Proofs.YteodeedejjcmgaaDoor.M
namespace Go.Proofs.YteodeedejjcmgaaDoor.M
open Go Go.RowKit Go.Proofs.YteodeedejjcmgaaDoor.E
set_option linter.unusedVariables false
set_option maxRecDepth 100000
set_option maxHeartbeats 4000000
set_option linter.unusedSimpArgs false
theorem F_r07_Write {r : World} {L : List HP} {w : World} (a0 : (List S44)) (a1 : Int) (A0 : Option Addr) (n0 : Nat) (c0 : Nat) {y : ((List Int) × Int)} (hF : r07_Write a0 a1 = some y) (ha0 : RdL L k44 A0 n0 c0 a0) (hS : SH r (L) w) :
  Ret Tryd.prog 12 #[.slice A0 n0 c0, .int .i64 a1] w fun v w' => ∃ (B0 : Option Addr) (m0 : Nat) (d0 : Nat), v = .tuple #[(.slice B0 m0 d0), (.int .i64 y.2)] ∧ SH r (own (kI .u8) 5 B0 m0 d0 y.1 :: L) w' := by
 refine enter Tryd.func12 rfl Tryd.ntmps12 [(0, .slice A0 n0 c0), (1, .int .i64 a1)] rfl (by simp) ?_
 intro ac hA Qf hQ hQn
 unfold r07_Write at hF
 refine ws fun K101 hK101 => ?_
 refine x_m hA rfl fun ac hA => ?_
 refine x_m hA rfl fun ac hA => ?_
 refine wn (hK101 _ _ ?_)
 refine wp_seq_k fun K102 hK102 => ?_
 refine wp_seq_k fun K103 hK103 => ?_
 have hj1 : ∀ (b106 : Bool), r07_Write_j1 a0 a1 b106 = some y → ∀ (ac : Act) (w : World), FR 237 [] ac [(0, .slice A0 n0 c0), (1, .int .i64 a1), (29, .bool b106)] → SH r (L) w → K103 ac w := by
  intro b106 hF ac w hA hS
  unfold r07_Write_j1 at hF
  refine hK103 _ _ ?_
  refine c_if hA rfl (fun hb107 => ?_) fun hb107 => ?_
  ·replace hF := ift hb107 hF
   refine ws fun K108 hK108 => ?_
   refine x_m hA rfl fun ac hA => ?_
   refine x_m hA rfl fun ac hA => ?_
   refine wn (hK108 _ _ ?_)
   refine wp_ret ?_
   replace hS := SH.nil_own (d := (kI .u8)) (e := 5) hS
   cases hF
   refine hQ _ _ ?_
   refine lv2 Tryd.results12 hA rfl rfl ?_
   exact ⟨none, 0, 0, rfl, hS⟩
  replace hF := iff' hb107 hF
  refine wp_skip ?_
  refine hK102 _ _ ?_
  refine wp_seq_k fun K109 hK109 => ?_
  refine ws fun K110 hK110 => ?_
  refine x_m hA rfl fun ac hA => ?_
  refine x_len Tryd.underlying22 (hS.rdl 0 ha0 rfl).2.1 hA (fun ac hA => ?_) rfl rfl rfl rfl rfl
  refine x_v hA (r_gtI rfl (hA.ev rfl) (hA.ev rfl)) rfl fun ac hA => ?_
  refine wn (hK110 _ _ ?_)
  refine c_if hA rfl (fun hb111 => ?_) fun hb111 => ?_
  ·replace hF := ift hb111 hF
   refine ws fun K112 hK112 => ?_
   refine x_m hA rfl fun ac hA => ?_
   refine x_m hA rfl fun ac hA => ?_
   refine wn (hK112 _ _ ?_)
   refine wp_ret ?_
   replace hS := SH.nil_own (d := (kI .u8)) (e := 5) hS
   cases hF
   refine hQ _ _ ?_
   refine lv2 Tryd.results12 hA rfl rfl ?_
   exact ⟨none, 0, 0, rfl, hS⟩
  replace hF := iff' hb111 hF
  refine wp_skip ?_
  refine hK109 _ _ ?_
  refine wp_seq_k fun K113 hK113 => ?_
  refine ws fun K375 hK375 => ?_
  refine x_m hA rfl fun ac hA => ?_
  refine wn (hK375 _ _ ?_)
  refine wp_block_k fun Kx376 hKx376 => ?_
  have hb1 : r07_Write_b1 a0 a1 = some y → ∀ (ac : Act) (w : World), FR 237 [] ac [(0, .slice A0 n0 c0), (1, .int .i64 a1)] → SH r (L) w → Kx376 ac w := by
   intro hF ac w hA hS
   unfold r07_Write_b1 at hF
   refine hKx376 _ _ ?_
   refine hK113 _ _ ?_
   refine ws fun K506 hK506 => ?_
   refine x_m hA rfl fun ac hA => ?_
   refine x_m hA rfl fun ac hA => ?_
   refine wn (hK506 _ _ ?_)
   refine ws fun K507 hK507 => ?_
   refine x_m hA rfl fun ac hA => ?_
   refine wn (hK507 _ _ ?_)
   refine wp_seq_k fun K508 hK508 => ?_
   refine ws fun K18111 hK18111 => ?_
   refine x_m hA rfl fun ac hA => ?_
   refine wn (hK18111 _ _ ?_)
   refine wp_block_k fun Kx18112 hKx18112 => ?_
   have hb2 : ∀ (l26908 : (List Int)) (l26912 : (List Int)) (x26916 : Int), r07_Write_b2 a1 l26908 l26912 x26916 = some y → ∀ (A26909 : Option Addr) (n26910 : Nat) (c26911 : Nat) (A26913 : Option Addr) (n26914 : Nat) (c26915 : Nat) (ac : Act) (w : World), FR 237 [] ac [(1, .int .i64 a1), (7, .slice A26909 n26910 c26911), (8, .slice A26913 n26914 c26915), (9, .int .i64 x26916)] → SH r (own (kI .u8) 5 A26909 n26910 c26911 l26908 :: own (kI .u8) 5 A26913 n26914 c26915 l26912 :: L) w → Kx18112 ac w := by
    intro l26908 l26912 x26916 hF A26909 n26910 c26911 A26913 n26914 c26915 ac w hA hS
    unfold r07_Write_b2 at hF
    refine hKx18112 _ _ ?_
    refine hK508 _ _ ?_
    refine ws fun K26917 hK26917 => ?_
    refine x_m hA rfl fun ac hA => ?_
    obtain ⟨x26918, h26919, hF⟩ := ltt_ hF
    refine x_v (v := .int .u64 x26918) hA (rv_i h26919 (r_convI Tryd.underlying3 Tryd.underlying31 rfl (hA.ev rfl))) rfl fun ac hA => ?_
    obtain ⟨y26920, h26921, hF⟩ := bnd hF
    refine x_call en32 hA (F_r03_Uint (L := own (kI .u8) 5 A26909 n26910 c26911 l26908 :: own (kI .u8) 5 A26913 n26914 c26915 l26912 :: L) x26918 h26921 hS) (fun v ac w hR hA => ?_) rfl rfl rfl rfl rfl
    obtain ⟨B26922, m26923, d26924, rfl, hS⟩ := hR
    refine x_m hA rfl fun ac hA => ?_
    refine wn (hK26917 _ _ ?_)
    refine ws fun K26925 hK26925 => ?_
    refine x_m hA rfl fun ac hA => ?_
    refine x_m hA rfl fun ac hA => ?_
    obtain ⟨x26926, h26927, hF⟩ := ltt_ hF
    refine x_v (v := .int .u64 x26926) hA (rv_i h26927 (r_convI Tryd.underlying3 Tryd.underlying31 rfl (hA.ev rfl))) rfl fun ac hA => ?_
    obtain ⟨y26928, h26929, hF⟩ := bnd hF
    refine x_call en32 hA (F_r03_Uint (L := own (kI .u8) 5 B26922 m26923 d26924 y26920 :: own (kI .u8) 5 A26909 n26910 c26911 l26908 :: own (kI .u8) 5 A26913 n26914 c26915 l26912 :: L) x26926 h26929 hS) (fun v ac w hR hA => ?_) rfl rfl rfl rfl rfl
    obtain ⟨B26930, m26931, d26932, rfl, hS⟩ := hR
    obtain ⟨h26933, hF⟩ := chk_some hF
    have hr := hS.rd 0 rfl
    refine x_app 1 inf5 Tryd.underlying24 hA hS hr.1 hr.2.1 h26933 rfl (fun A26934 n26935 c26936 ac w hS hA => ?_) rfl rfl rfl rfl rfl rfl rfl rfl rfl
    refine x_m hA rfl fun ac hA => ?_
    refine wn (hK26925 _ _ ?_)
    refine ws fun K26937 hK26937 => ?_
    refine x_m hA rfl fun ac hA => ?_
    refine x_len Tryd.underlying24 (hS.rd 2 rfl).2.1 hA (fun ac hA => ?_) rfl rfl rfl rfl rfl
    refine x_m hA rfl fun ac hA => ?_
    refine wn (hK26937 _ _ ?_)
    refine ws fun K26938 hK26938 => ?_
    refine x_m hA rfl fun ac hA => ?_
    refine x_m hA rfl fun ac hA => ?_
    refine x_m hA rfl fun ac hA => ?_
    obtain ⟨h26939, hF⟩ := chk_some hF
    have hr := hS.rd 3 rfl
    refine x_app 0 inf5 Tryd.underlying24 hA hS hr.1 hr.2.1 h26939 rfl (fun A26940 n26941 c26942 ac w hS hA => ?_) rfl rfl rfl rfl rfl rfl rfl rfl rfl
    obtain ⟨y26943, h26944, hF⟩ := bnd hF
    refine x_call en36 hA (F_r04_Lay (L := own (kI .u8) 5 A26940 n26941 c26942 ((y26920 ++ y26928) ++ l26912) :: own (kI .u8) 5 B26930 m26931 d26932 y26928 :: own (kI .u8) 5 A26909 n26910 c26911 l26908 :: own (kI .u8) 5 A26913 n26914 c26915 l26912 :: L) 102 ((y26920 ++ y26928) ++ l26912) A26940 n26941 c26942 h26944 (RdL.own 0 rfl (hS.dropN 0)) hS) (fun v ac w hR hA => ?_) rfl rfl rfl rfl rfl
    obtain ⟨B26945, m26946, d26947, rfl, hS⟩ := hR
    obtain ⟨h26948, hF⟩ := chk_some hF
    have hr := hS.rd 0 rfl
    refine x_app 3 inf5 Tryd.underlying24 hA hS hr.1 hr.2.1 h26948 rfl (fun A26949 n26950 c26951 ac w hS hA => ?_) rfl rfl rfl rfl rfl rfl rfl rfl rfl
    refine x_m hA rfl fun ac hA => ?_
    refine wn (hK26938 _ _ ?_)
    refine ws fun K26952 hK26952 => ?_
    refine x_m hA rfl fun ac hA => ?_
    refine x_m hA rfl fun ac hA => ?_
    obtain ⟨x26953, h26954, hF⟩ := ltt_ hF
    refine x_v (v := .int .u8 x26953) hA (rv_i h26954 (r_convI Tryd.underlying3 Tryd.underlying5 rfl (hA.ev rfl))) rfl fun ac hA => ?_
    refine x_m hA rfl fun ac hA => ?_
    obtain ⟨x26955, h26956, hF⟩ := ltt_ hF
    refine x_v (v := .int .i64 x26955) hA (rv_i h26956 (r_quo rfl (hA.ev rfl) (hA.ev rfl) (by decide))) rfl fun ac hA => ?_
    obtain ⟨x26957, h26958, hF⟩ := ltt_ hF
    refine x_v (v := .int .u8 x26957) hA (rv_i h26958 (r_convI Tryd.underlying3 Tryd.underlying5 rfl (hA.ev rfl))) rfl fun ac hA => ?_
    refine x_m hA rfl fun ac hA => ?_
    obtain ⟨x26959, h26960, hF⟩ := ltt_ hF
    refine x_v (v := .int .i64 x26959) hA (rv_i h26960 (r_quo rfl (hA.ev rfl) (hA.ev rfl) (by decide))) rfl fun ac hA => ?_
    obtain ⟨x26961, h26962, hF⟩ := ltt_ hF
    refine x_v (v := .int .u8 x26961) hA (rv_i h26962 (r_convI Tryd.underlying3 Tryd.underlying5 rfl (hA.ev rfl))) rfl fun ac hA => ?_
    refine x_m hA rfl fun ac hA => ?_
    obtain ⟨x26963, h26964, hF⟩ := ltt_ hF
    refine x_v (v := .int .i64 x26963) hA (rv_i h26964 (r_quo rfl (hA.ev rfl) (hA.ev rfl) (by decide))) rfl fun ac hA => ?_
    obtain ⟨x26965, h26966, hF⟩ := ltt_ hF
    refine x_v (v := .int .u8 x26965) hA (rv_i h26966 (r_convI Tryd.underlying3 Tryd.underlying5 rfl (hA.ev rfl))) rfl fun ac hA => ?_
    refine x_bsl (d := (kI .u8)) (e := 5) (ps := #[(0, .int .u8 x26953), (1, .int .u8 x26957), (2, .int .u8 x26961), (3, .int .u8 x26965)]) (cells := [.int .u8 x26953, .int .u8 x26957, .int .u8 x26961, .int .u8 x26965]) (xs := [x26953, x26957, x26961, x26965]) (fun w => by kernel_rfl) rfl ⟨[.int .u8 x26953], _, rfl, rfl, ⟨[.int .u8 x26957], _, rfl, rfl, ⟨[.int .u8 x26961], _, rfl, rfl, ⟨[.int .u8 x26965], _, rfl, rfl, rfl⟩⟩⟩⟩ hA hS (fun g26967 ac w hS hA => ?_) rfl rfl rfl rfl rfl rfl
    obtain ⟨y26968, h26969, hF⟩ := bnd hF
    refine x_call en36 hA (F_r04_Lay (L := own (kI .u8) 5 (some ⟨g26967, 0, none⟩) 4 4 [x26953, x26957, x26961, x26965] :: own (kI .u8) 5 A26949 n26950 c26951 (l26908 ++ y26943) :: own (kI .u8) 5 B26945 m26946 d26947 y26943 :: own (kI .u8) 5 A26940 n26941 c26942 ((y26920 ++ y26928) ++ l26912) :: own (kI .u8) 5 B26930 m26931 d26932 y26928 :: own (kI .u8) 5 A26913 n26914 c26915 l26912 :: L) 116 [x26953, x26957, x26961, x26965] (some ⟨g26967, 0, none⟩) 4 4 h26969 (RdL.own 0 rfl (hS.dropN 0)) hS) (fun v ac w hR hA => ?_) rfl rfl rfl rfl rfl
    obtain ⟨B26970, m26971, d26972, rfl, hS⟩ := hR
    obtain ⟨h26973, hF⟩ := chk_some hF
    have hr := hS.rd 0 rfl
    refine x_app 2 inf5 Tryd.underlying24 hA hS hr.1 hr.2.1 h26973 rfl (fun A26974 n26975 c26976 ac w hS hA => ?_) rfl rfl rfl rfl rfl rfl rfl rfl rfl
    refine x_m hA rfl fun ac hA => ?_
    refine x_m hA rfl fun ac hA => ?_
    refine wn (hK26952 _ _ ?_)
    refine wp_ret ?_
    replace hS := hS.drop 1
    replace hS := hS.drop 1
    replace hS := hS.drop 1
    replace hS := hS.drop 1
    replace hS := hS.drop 1
    replace hS := hS.drop 1
    cases hF
    refine hQ _ _ ?_
    refine lv2 Tryd.results12 hA rfl rfl ?_
    exact ⟨A26974, n26975, c26976, rfl, hS⟩
   obtain ⟨t32857, hl32857, hF⟩ := bnd hF
   have hx32857_2 : ∀ (l32849 : (List Int)) (l32853 : (List Int)) (x32857 : Int), (l32849, l32853, x32857) = t32857 → ∀ (A32850 : Option Addr) (n32851 : Nat) (c32852 : Nat) (A32854 : Option Addr) (n32855 : Nat) (c32856 : Nat) (ac : Act) (w : World), FR 237 [] ac [(1, .int .i64 a1), (7, .slice A32850 n32851 c32852), (8, .slice A32854 n32855 c32856), (9, .int .i64 x32857)] → SH r (own (kI .u8) 5 A32850 n32851 c32852 l32849 :: own (kI .u8) 5 A32854 n32855 c32856 l32853 :: L) w → Kx18112 ac w := by
    intro l32849 l32853 x32857 ht A32850 n32851 c32852 A32854 n32855 c32856 ac w hA hS
    subst ht
    replace hF : r07_Write_x1_2 a1 l32849 l32853 x32857 = some y := hF
    unfold r07_Write_x1_2 at hF
    exact hb2 l32849 l32853 x32857 hF A32850 n32851 c32852 A32854 n32855 c32856 ac w (hA.sub _ rfl) hS
   replace hS := SH.nil_own (d := (kI .u8)) (e := 5) hS
   replace hS := SH.nil_own (d := (kI .u8)) (e := 5) hS
   replace hS := hS.pk 1
   refine wp_loop_fn hl32857 (fun s ac w => ∃ (A29917 : Option Addr) (n29918 : Nat) (c29919 : Nat) (A29921 : Option Addr) (n29922 : Nat) (c29923 : Nat), FR 237 [] ac [(0, .slice A0 n0 c0), (1, .int .i64 a1), (7, .slice A29917 n29918 c29919), (8, .slice A29921 n29922 c29923), (9, .int .i64 s.2.2.1), (10, .int .i64 s.2.2.2)] ∧ SH r (own (kI .u8) 5 A29917 n29918 c29919 s.1 :: own (kI .u8) 5 A29921 n29922 c29923 s.2.1 :: L) w) ⟨none, 0, 0, none, 0, 0, hA.sub _ rfl, hS⟩ ?_
   intro N32857 s32857 o32857 hF N32857_ T32857_ ac w hLab
   obtain ⟨l29916, l29920, x29924, x29925⟩ := s32857
   replace hF : r07_Write_l1 a0 l29916 l29920 x29924 x29925 = some o32857 := hF
   unfold r07_Write_l1 at hF
   try dsimp only at hLab
   obtain ⟨A29917, n29918, c29919, A29921, n29922, c29923, hA, hS⟩ := hLab
   refine wp_seq_k fun K32859 hK32859 => ?_
   refine ws fun K32860 hK32860 => ?_
   refine x_m hA rfl fun ac hA => ?_
   refine x_m hA rfl fun ac hA => ?_
   refine x_len Tryd.underlying22 (hS.rdl 2 ha0 rfl).2.1 hA (fun ac hA => ?_) rfl rfl rfl rfl rfl
   refine x_v hA (r_ltI rfl (hA.ev rfl) (hA.ev rfl)) rfl fun ac hA => ?_
   refine wn (hK32860 _ _ ?_)
   refine c_if hA rfl (fun hb32861 => ?_) fun hb32861 => ?_
   ·replace hF := ift hb32861 hF
    refine wp_skip ?_
    refine hK32859 _ _ ?_
    refine wp_seq_k fun K32862 hK32862 => ?_
    refine wp_block_k fun Kx32863 hKx32863 => ?_
    refine ws fun K32864 hK32864 => ?_
    refine x_m hA rfl fun ac hA => ?_
    refine x_m hA rfl fun ac hA => ?_
    obtain ⟨l32865, h32866, hF⟩ := bnd hF
    obtain ⟨A32869, n32870, c32871, e32868, h32867⟩ := rdl_lc ha0 h32866
    refine x_v (v := .slice A32869 n32870 c32871) hA (rv_e e32868 (r_slice_l Tryd.underlying22 sz44 rfl (hA.ev rfl) (hA.ev rfl) (cutq (hS.rdl 2 ha0 rfl) h32866).1 (cutq (hS.rdl 2 ha0 rfl) h32866).2.2.2.2.2)) rfl fun ac hA => ?_
    refine x_m hA rfl fun ac hA => ?_
    refine wn (hK32864 _ _ ?_)
    refine wp_seq_k fun K32872 hK32872 => ?_
    have hj2 : ∀ (l32882 : (List S44)), r07_Write_j2 l29916 l29920 x29924 x29925 l32882 = some o32857 → ∀ (A32883 : Option Addr) (n32884 : Nat) (c32885 : Nat) (h32886 : RdL L k44 A32883 n32884 c32885 l32882) (ac : Act) (w : World), FR 237 [] ac [(0, .slice A0 n0 c0), (1, .int .i64 a1), (7, .slice A29917 n29918 c29919), (8, .slice A29921 n29922 c29923), (9, .int .i64 x29924), (10, .int .i64 x29925), (11, .slice A32883 n32884 c32885)] → SH r (own (kI .u8) 5 A29917 n29918 c29919 l29916 :: own (kI .u8) 5 A29921 n29922 c29923 l29920 :: L) w → K32872 ac w := by
     intro l32882 hF A32883 n32884 c32885 h32886 ac w hA hS
     unfold r07_Write_j2 at hF
     refine hK32872 _ _ ?_
     refine ws fun K32887 hK32887 => ?_
     refine x_m hA rfl fun ac hA => ?_
     obtain ⟨x32888, h32889, hF⟩ := bnd hF
     refine x_ia Tryd.underlying22 sz44 (hS.rdl 2 h32886 rfl) h32889 hA (fun ac hA => ?_) rfl rfl rfl rfl rfl rfl
     refine x_fae (m := (0 : Int).toNat * 5) fa44_2 hA (fun ac hA => ?_) rfl rfl rfl rfl rfl
     obtain ⟨cs, hV, hc32890⟩ := el (hS.rdl 2 h32886 rfl) h32889
     obtain rfl := hV
     refine x_ld Tryd.underlying2 (hc32890 2 _ rfl) hA (fun ac hA => ?_) rfl rfl rfl rfl rfl rfl
     refine x_m hA rfl fun ac hA => ?_
     refine wn (hK32887 _ _ ?_)
     refine ws fun K32891 hK32891 => ?_
     refine x_m hA rfl fun ac hA => ?_
     refine x_ia Tryd.underlying22 sz44 (hS.rdl 2 h32886 rfl) h32889 hA (fun ac hA => ?_) rfl rfl rfl rfl rfl rfl
     refine x_fae (m := (0 : Int).toNat * 5) fa44_2 hA (fun ac hA => ?_) rfl rfl rfl rfl rfl
     obtain ⟨cs, hV, hc32892⟩ := el (hS.rdl 2 h32886 rfl) h32889
     obtain rfl := hV
     refine x_ld Tryd.underlying2 (hc32892 2 _ rfl) hA (fun ac hA => ?_) rfl rfl rfl rfl rfl rfl
     refine x_m hA rfl fun ac hA => ?_
     refine wn (hK32891 _ _ ?_)
     refine ws fun K32893 hK32893 => ?_
     refine x_m hA rfl fun ac hA => ?_
     refine x_ia Tryd.underlying22 sz44 (hS.rdl 2 h32886 rfl) h32889 hA (fun ac hA => ?_) rfl rfl rfl rfl rfl rfl
     refine x_fae (m := (0 : Int).toNat * 5) fa44_3 hA (fun ac hA => ?_) rfl rfl rfl rfl rfl
     obtain ⟨cs, hV, hc32894⟩ := el (hS.rdl 2 h32886 rfl) h32889
     obtain rfl := hV
     refine x_ld Tryd.underlying9 (hc32894 3 _ rfl) hA (fun ac hA => ?_) rfl rfl rfl rfl rfl rfl
     refine x_m hA rfl fun ac hA => ?_
     refine wn (hK32893 _ _ ?_)
     refine ws fun K32895 hK32895 => ?_
     refine x_m hA rfl fun ac hA => ?_
     refine x_ia Tryd.underlying22 sz44 (hS.rdl 2 h32886 rfl) h32889 hA (fun ac hA => ?_) rfl rfl rfl rfl rfl rfl
     refine x_fae (m := (0 : Int).toNat * 5) fa44_3 hA (fun ac hA => ?_) rfl rfl rfl rfl rfl
     obtain ⟨cs, hV, hc32896⟩ := el (hS.rdl 2 h32886 rfl) h32889
     obtain rfl := hV
     refine x_ld Tryd.underlying9 (hc32896 3 _ rfl) hA (fun ac hA => ?_) rfl rfl rfl rfl rfl rfl
     refine x_m hA rfl fun ac hA => ?_
     refine wn (hK32895 _ _ ?_)
     refine wp_seq_k fun K32897 hK32897 => ?_
     refine ws fun K34277 hK34277 => ?_
     refine x_m hA rfl fun ac hA => ?_
     refine wn (hK34277 _ _ ?_)
     refine wp_block_k fun Kx34278 hKx34278 => ?_
     have hb3 : ∀ (x34965 : Int) (x34966 : Int) (s34967 : (List UInt8)) (s34968 : (List UInt8)), r07_Write_b3 l29916 l29920 x29924 x29925 l32882 x34965 x34966 s34967 s34968 = some o32857 → ∀ (ac : Act) (w : World), FR 237 [] ac [(0, .slice A0 n0 c0), (1, .int .i64 a1), (7, .slice A29917 n29918 c29919), (8, .slice A29921 n29922 c29923), (9, .int .i64 x29924), (10, .int .i64 x29925), (11, .slice A32883 n32884 c32885), (12, .int .i64 x34965), (13, .int .i64 x34966), (14, str s34967), (15, str s34968)] → SH r (own (kI .u8) 5 A29917 n29918 c29919 l29916 :: own (kI .u8) 5 A29921 n29922 c29923 l29920 :: L) w → Kx34278 ac w := by
      intro x34965 x34966 s34967 s34968 hF ac w hA hS
      unfold r07_Write_b3 at hF
      refine hKx34278 _ _ ?_
      refine hK32897 _ _ ?_
      refine ws fun K34969 hK34969 => ?_
      refine x_m hA rfl fun ac hA => ?_
      refine x_m hA rfl fun ac hA => ?_
      refine x_len Tryd.underlying22 (hS.rdl 2 h32886 rfl).2.1 hA (fun ac hA => ?_) rfl rfl rfl rfl rfl
      obtain ⟨x34970, h34971, hF⟩ := ltt_ hF
      refine x_v (v := .int .u64 x34970) hA (rv_i h34971 (r_convI Tryd.underlying3 Tryd.underlying31 rfl (hA.ev rfl))) rfl fun ac hA => ?_
      obtain ⟨y34972, h34973, hF⟩ := bnd hF
      refine x_call en32 hA (F_r03_Uint (L := own (kI .u8) 5 A29917 n29918 c29919 l29916 :: own (kI .u8) 5 A29921 n29922 c29923 l29920 :: L) x34970 h34973 hS) (fun v ac w hR hA => ?_) rfl rfl rfl rfl rfl
      obtain ⟨B34974, m34975, d34976, rfl, hS⟩ := hR
      obtain ⟨h34977, hF⟩ := chk_some hF
      have hr := hS.rd 0 rfl
      refine x_app 2 inf5 Tryd.underlying24 hA hS hr.1 hr.2.1 h34977 rfl (fun A34978 n34979 c34980 ac w hS hA => ?_) rfl rfl rfl rfl rfl rfl rfl rfl rfl
      refine x_m hA rfl fun ac hA => ?_
      refine wn (hK34969 _ _ ?_)
      refine ws fun K34981 hK34981 => ?_
      refine x_m hA rfl fun ac hA => ?_
      refine x_m hA rfl fun ac hA => ?_
      refine x_len Tryd.underlying24 (hS.rd 2 rfl).2.1 hA (fun ac hA => ?_) rfl rfl rfl rfl rfl
      obtain ⟨x34982, h34983, hF⟩ := ltt_ hF
      refine x_v (v := .int .u64 x34982) hA (rv_i h34983 (r_convI Tryd.underlying3 Tryd.underlying31 rfl (hA.ev rfl))) rfl fun ac hA => ?_
      obtain ⟨y34984, h34985, hF⟩ := bnd hF
      refine x_call en32 hA (F_r03_Uint (L := own (kI .u8) 5 A34978 n34979 c34980 (l29920 ++ y34972) :: own (kI .u8) 5 B34974 m34975 d34976 y34972 :: own (kI .u8) 5 A29917 n29918 c29919 l29916 :: L) x34982 h34985 hS) (fun v ac w hR hA => ?_) rfl rfl rfl rfl rfl
      obtain ⟨B34986, m34987, d34988, rfl, hS⟩ := hR
      obtain ⟨h34989, hF⟩ := chk_some hF
      have hr := hS.rd 0 rfl
      refine x_app 1 inf5 Tryd.underlying24 hA hS hr.1 hr.2.1 h34989 rfl (fun A34990 n34991 c34992 ac w hS hA => ?_) rfl rfl rfl rfl rfl rfl rfl rfl rfl
      refine x_m hA rfl fun ac hA => ?_
      refine wn (hK34981 _ _ ?_)
      refine ws fun K34993 hK34993 => ?_
      refine x_m hA rfl fun ac hA => ?_
      refine x_m hA rfl fun ac hA => ?_
      obtain ⟨x34994, h34995, hF⟩ := bnd hF
      refine x_ia Tryd.underlying22 sz44 (hS.rdl 4 h32886 rfl) h34995 hA (fun ac hA => ?_) rfl rfl rfl rfl rfl rfl
      refine x_fae (m := (0 : Int).toNat * 5) fa44_0 hA (fun ac hA => ?_) rfl rfl rfl rfl rfl
      obtain ⟨cs, hV, hc34996⟩ := el (hS.rdl 4 h32886 rfl) h34995
      obtain rfl := hV
      refine x_ld Tryd.underlying31 (hc34996 0 _ rfl) hA (fun ac hA => ?_) rfl rfl rfl rfl rfl rfl
      obtain ⟨y34997, h34998, hF⟩ := bnd hF
      refine x_call en32 hA (F_r03_Uint (L := own (kI .u8) 5 A34990 n34991 c34992 ((l29920 ++ y34972) ++ y34984) :: own (kI .u8) 5 B34986 m34987 d34988 y34984 :: own (kI .u8) 5 B34974 m34975 d34976 y34972 :: own (kI .u8) 5 A29917 n29918 c29919 l29916 :: L) x34994.f0 h34998 hS) (fun v ac w hR hA => ?_) rfl rfl rfl rfl rfl
      obtain ⟨B34999, m35000, d35001, rfl, hS⟩ := hR
      obtain ⟨h35002, hF⟩ := chk_some hF
      have hr := hS.rd 0 rfl
      refine x_app 1 inf5 Tryd.underlying24 hA hS hr.1 hr.2.1 h35002 rfl (fun A35003 n35004 c35005 ac w hS hA => ?_) rfl rfl rfl rfl rfl rfl rfl rfl rfl
      refine x_m hA rfl fun ac hA => ?_
      refine wn (hK34993 _ _ ?_)
      refine ws fun K35006 hK35006 => ?_
      refine x_m hA rfl fun ac hA => ?_
      refine x_m hA rfl fun ac hA => ?_
      refine x_m hA rfl fun ac hA => ?_
      refine x_len Tryd.underlying22 (hS.rdl 5 h32886 rfl).2.1 hA (fun ac hA => ?_) rfl rfl rfl rfl rfl
      obtain ⟨x35007, h35008, hF⟩ := ltt_ hF
      refine x_v (v := .int .i64 x35007) hA (rv_i h35008 (r_sub rfl (hA.ev rfl) (hA.ev rfl))) rfl fun ac hA => ?_
      obtain ⟨x35009, h35010, hF⟩ := bnd hF
      refine x_ia Tryd.underlying22 sz44 (hS.rdl 5 h32886 rfl) h35010 hA (fun ac hA => ?_) rfl rfl rfl rfl rfl rfl
      refine x_fae (m := x35007.toNat * 5) fa44_0 hA (fun ac hA => ?_) rfl rfl rfl rfl rfl
      obtain ⟨cs, hV, hc35011⟩ := el (hS.rdl 5 h32886 rfl) h35010
      obtain rfl := hV
      refine x_ld Tryd.underlying31 (hc35011 0 _ rfl) hA (fun ac hA => ?_) rfl rfl rfl rfl rfl rfl
      obtain ⟨y35012, h35013, hF⟩ := bnd hF
      refine x_call en32 hA (F_r03_Uint (L := own (kI .u8) 5 A35003 n35004 c35005 (((l29920 ++ y34972) ++ y34984) ++ y34997) :: own (kI .u8) 5 B34999 m35000 d35001 y34997 :: own (kI .u8) 5 B34986 m34987 d34988 y34984 :: own (kI .u8) 5 B34974 m34975 d34976 y34972 :: own (kI .u8) 5 A29917 n29918 c29919 l29916 :: L) x35009.f0 h35013 hS) (fun v ac w hR hA => ?_) rfl rfl rfl rfl rfl
      obtain ⟨B35014, m35015, d35016, rfl, hS⟩ := hR
      obtain ⟨h35017, hF⟩ := chk_some hF
      have hr := hS.rd 0 rfl
      refine x_app 1 inf5 Tryd.underlying24 hA hS hr.1 hr.2.1 h35017 rfl (fun A35018 n35019 c35020 ac w hS hA => ?_) rfl rfl rfl rfl rfl rfl rfl rfl rfl
      refine x_m hA rfl fun ac hA => ?_
      refine wn (hK35006 _ _ ?_)
      refine ws fun K35021 hK35021 => ?_
      refine x_m hA rfl fun ac hA => ?_
      refine x_m hA rfl fun ac hA => ?_
      obtain ⟨y35022, h35023, hF⟩ := bnd hF
      refine x_call en33 hA (F_r03_Int (L := own (kI .u8) 5 A35018 n35019 c35020 ((((l29920 ++ y34972) ++ y34984) ++ y34997) ++ y35012) :: own (kI .u8) 5 B35014 m35015 d35016 y35012 :: own (kI .u8) 5 B34999 m35000 d35001 y34997 :: own (kI .u8) 5 B34986 m34987 d34988 y34984 :: own (kI .u8) 5 B34974 m34975 d34976 y34972 :: own (kI .u8) 5 A29917 n29918 c29919 l29916 :: L) x34965 h35023 hS) (fun v ac w hR hA => ?_) rfl rfl rfl rfl rfl
      obtain ⟨B35024, m35025, d35026, rfl, hS⟩ := hR
      obtain ⟨h35027, hF⟩ := chk_some hF
      have hr := hS.rd 0 rfl
      refine x_app 1 inf5 Tryd.underlying24 hA hS hr.1 hr.2.1 h35027 rfl (fun A35028 n35029 c35030 ac w hS hA => ?_) rfl rfl rfl rfl rfl rfl rfl rfl rfl
      refine x_m hA rfl fun ac hA => ?_
      refine wn (hK35021 _ _ ?_)
      refine ws fun K35031 hK35031 => ?_
      refine x_m hA rfl fun ac hA => ?_
      refine x_m hA rfl fun ac hA => ?_
      obtain ⟨y35032, h35033, hF⟩ := bnd hF
      refine x_call en33 hA (F_r03_Int (L := own (kI .u8) 5 A35028 n35029 c35030 (((((l29920 ++ y34972) ++ y34984) ++ y34997) ++ y35012) ++ y35022) :: own (kI .u8) 5 B35024 m35025 d35026 y35022 :: own (kI .u8) 5 B35014 m35015 d35016 y35012 :: own (kI .u8) 5 B34999 m35000 d35001 y34997 :: own (kI .u8) 5 B34986 m34987 d34988 y34984 :: own (kI .u8) 5 B34974 m34975 d34976 y34972 :: own (kI .u8) 5 A29917 n29918 c29919 l29916 :: L) x34966 h35033 hS) (fun v ac w hR hA => ?_) rfl rfl rfl rfl rfl
      obtain ⟨B35034, m35035, d35036, rfl, hS⟩ := hR
      obtain ⟨h35037, hF⟩ := chk_some hF
      have hr := hS.rd 0 rfl
      refine x_app 1 inf5 Tryd.underlying24 hA hS hr.1 hr.2.1 h35037 rfl (fun A35038 n35039 c35040 ac w hS hA => ?_) rfl rfl rfl rfl rfl rfl rfl rfl rfl
      refine x_m hA rfl fun ac hA => ?_
      refine wn (hK35031 _ _ ?_)
      refine ws fun K35041 hK35041 => ?_
      refine x_m hA rfl fun ac hA => ?_
      refine x_m hA rfl fun ac hA => ?_
      obtain ⟨y35042, h35043, hF⟩ := bnd hF
      refine x_call en34 hA (F_r03_Text (L := own (kI .u8) 5 A35038 n35039 c35040 ((((((l29920 ++ y34972) ++ y34984) ++ y34997) ++ y35012) ++ y35022) ++ y35032) :: own (kI .u8) 5 B35034 m35035 d35036 y35032 :: own (kI .u8) 5 B35024 m35025 d35026 y35022 :: own (kI .u8) 5 B35014 m35015 d35016 y35012 :: own (kI .u8) 5 B34999 m35000 d35001 y34997 :: own (kI .u8) 5 B34986 m34987 d34988 y34984 :: own (kI .u8) 5 B34974 m34975 d34976 y34972 :: own (kI .u8) 5 A29917 n29918 c29919 l29916 :: L) s34967 h35043 hS) (fun v ac w hR hA => ?_) rfl rfl rfl rfl rfl
      obtain ⟨B35044, m35045, d35046, rfl, hS⟩ := hR
      obtain ⟨h35047, hF⟩ := chk_some hF
      have hr := hS.rd 0 rfl
      refine x_app 1 inf5 Tryd.underlying24 hA hS hr.1 hr.2.1 h35047 rfl (fun A35048 n35049 c35050 ac w hS hA => ?_) rfl rfl rfl rfl rfl rfl rfl rfl rfl
      refine x_m hA rfl fun ac hA => ?_
      refine wn (hK35041 _ _ ?_)
      refine ws fun K35051 hK35051 => ?_
      refine x_m hA rfl fun ac hA => ?_
      refine x_m hA rfl fun ac hA => ?_
      obtain ⟨y35052, h35053, hF⟩ := bnd hF
      refine x_call en34 hA (F_r03_Text (L := own (kI .u8) 5 A35048 n35049 c35050 (((((((l29920 ++ y34972) ++ y34984) ++ y34997) ++ y35012) ++ y35022) ++ y35032) ++ y35042) :: own (kI .u8) 5 B35044 m35045 d35046 y35042 :: own (kI .u8) 5 B35034 m35035 d35036 y35032 :: own (kI .u8) 5 B35024 m35025 d35026 y35022 :: own (kI .u8) 5 B35014 m35015 d35016 y35012 :: own (kI .u8) 5 B34999 m35000 d35001 y34997 :: own (kI .u8) 5 B34986 m34987 d34988 y34984 :: own (kI .u8) 5 B34974 m34975 d34976 y34972 :: own (kI .u8) 5 A29917 n29918 c29919 l29916 :: L) s34968 h35053 hS) (fun v ac w hR hA => ?_) rfl rfl rfl rfl rfl
      obtain ⟨B35054, m35055, d35056, rfl, hS⟩ := hR
      obtain ⟨h35057, hF⟩ := chk_some hF
      have hr := hS.rd 0 rfl
      refine x_app 1 inf5 Tryd.underlying24 hA hS hr.1 hr.2.1 h35057 rfl (fun A35058 n35059 c35060 ac w hS hA => ?_) rfl rfl rfl rfl rfl rfl rfl rfl rfl
      refine x_m hA rfl fun ac hA => ?_
      refine wn (hK35051 _ _ ?_)
      refine ws fun K35061 hK35061 => ?_
      refine x_m hA rfl fun ac hA => ?_
      refine x_m hA rfl fun ac hA => ?_
      obtain ⟨y35062, h35063, hF⟩ := bnd hF
      refine x_call en35 hA (F_r06_Lay (L := own (kI .u8) 5 A35058 n35059 c35060 ((((((((l29920 ++ y34972) ++ y34984) ++ y34997) ++ y35012) ++ y35022) ++ y35032) ++ y35042) ++ y35052) :: own (kI .u8) 5 B35054 m35055 d35056 y35052 :: own (kI .u8) 5 B35044 m35045 d35046 y35042 :: own (kI .u8) 5 B35034 m35035 d35036 y35032 :: own (kI .u8) 5 B35024 m35025 d35026 y35022 :: own (kI .u8) 5 B35014 m35015 d35016 y35012 :: own (kI .u8) 5 B34999 m35000 d35001 y34997 :: own (kI .u8) 5 B34986 m34987 d34988 y34984 :: own (kI .u8) 5 B34974 m34975 d34976 y34972 :: own (kI .u8) 5 A29917 n29918 c29919 l29916 :: L) l32882 A32883 n32884 c32885 h35063 (RdL.sfx 10 rfl h32886) hS) (fun v ac w hR hA => ?_) rfl rfl rfl rfl rfl
      obtain ⟨B35064, m35065, d35066, rfl, hS⟩ := hR
      obtain ⟨h35067, hF⟩ := chk_some hF
      have hr := hS.rd 0 rfl
      refine x_app 10 inf5 Tryd.underlying24 hA hS hr.1 hr.2.1 h35067 rfl (fun A35068 n35069 c35070 ac w hS hA => ?_) rfl rfl rfl rfl rfl rfl rfl rfl rfl
      refine x_m hA rfl fun ac hA => ?_
      refine wn (hK35061 _ _ ?_)
      refine wp_reg ?_
      refine x_m hA rfl fun ac hA => ?_
      obtain ⟨x35071, h35072, hF⟩ := ltt_ hF
      refine x_v (v := .int .i64 x35071) hA (rv_i h35072 (r_add rfl (hA.ev rfl) (hA.ev rfl))) rfl fun ac hA => ?_
      refine x_m hA rfl fun ac hA => ?_
      refine wpList_nil ?_
      refine hKx32863 _ _ ?_
      refine hK32862 _ _ ?_
      refine wp_reg ?_
      refine x_m hA rfl fun ac hA => ?_
      obtain ⟨x35073, h35074, hF⟩ := ltt_ hF
      refine x_v (v := .int .i64 x35073) hA (rv_i h35074 (r_add rfl (hA.ev rfl) (hA.ev rfl))) rfl fun ac hA => ?_
      refine x_m hA rfl fun ac hA => ?_
      refine wpList_nil ?_
      replace hS := hS.drop 1
      replace hS := hS.drop 2
      replace hS := hS.drop 2
      replace hS := hS.drop 2
      replace hS := hS.drop 2
      replace hS := hS.drop 2
      replace hS := hS.drop 2
      replace hS := hS.drop 2
      replace hS := hS.drop 2
      cases hF
      exact ⟨_, N32857_ _ rfl, A35068, n35069, c35070, A35058, n35059, c35060, hA.sub _ rfl, hS⟩
     obtain ⟨t35537, hl35537, hF⟩ := bnd hF
     have hx35537_4 : ∀ (x35534 : Int) (x35535 : Int) (s35536 : (List UInt8)) (s35537 : (List UInt8)), (x35534, x35535, s35536, s35537) = t35537 → ∀ (ac : Act) (w : World), FR 237 [] ac [(0, .slice A0 n0 c0), (1, .int .i64 a1), (7, .slice A29917 n29918 c29919), (8, .slice A29921 n29922 c29923), (9, .int .i64 x29924), (10, .int .i64 x29925), (11, .slice A32883 n32884 c32885), (12, .int .i64 x35534), (13, .int .i64 x35535), (14, str s35536), (15, str s35537)] → SH r (own (kI .u8) 5 A29917 n29918 c29919 l29916 :: own (kI .u8) 5 A29921 n29922 c29923 l29920 :: L) w → Kx34278 ac w := by
      intro x35534 x35535 s35536 s35537 ht ac w hA hS
      subst ht
      replace hF : r07_Write_x2_4 l29916 l29920 x29924 x29925 l32882 x35534 x35535 s35536 s35537 = some o32857 := hF
      unfold r07_Write_x2_4 at hF
      exact hb3 x35534 x35535 s35536 s35537 hF ac w (hA.sub _ rfl) hS
     refine wp_loop_fn hl35537 (fun s ac w => FR 237 [] ac [(0, .slice A0 n0 c0), (1, .int .i64 a1), (7, .slice A29917 n29918 c29919), (8, .slice A29921 n29922 c29923), (9, .int .i64 x29924), (10, .int .i64 x29925), (11, .slice A32883 n32884 c32885), (12, .int .i64 s.1), (13, .int .i64 s.2.1), (14, str s.2.2.1), (15, str s.2.2.2.1), (16, .int .i64 s.2.2.2.2)] ∧ SH r (own (kI .u8) 5 A29917 n29918 c29919 l29916 :: own (kI .u8) 5 A29921 n29922 c29923 l29920 :: L) w) ⟨hA.sub _ rfl, hS⟩ ?_
     intro N35537 s35537 o35537 hF N35537_ T35537_ ac w hLab
     obtain ⟨x35302, x35303, s35304, s35305, x35306⟩ := s35537
     replace hF : r07_Write_l2 l32882 x35302 x35303 s35304 s35305 x35306 = some o35537 := hF
     unfold r07_Write_l2 at hF
     try dsimp only at hLab
     obtain ⟨hA, hS⟩ := hLab
     refine wp_seq_k fun K35539 hK35539 => ?_
     refine ws fun K35540 hK35540 => ?_
     refine x_m hA rfl fun ac hA => ?_
     refine x_m hA rfl fun ac hA => ?_
     refine x_len Tryd.underlying22 (hS.rdl 2 h32886 rfl).2.1 hA (fun ac hA => ?_) rfl rfl rfl rfl rfl
     refine x_v hA (r_ltI rfl (hA.ev rfl) (hA.ev rfl)) rfl fun ac hA => ?_
     refine wn (hK35540 _ _ ?_)
     refine c_if hA rfl (fun hb35541 => ?_) fun hb35541 => ?_
     ·replace hF := ift hb35541 hF
      refine wp_skip ?_
      refine hK35539 _ _ ?_
      refine wp_seq_k fun K35542 hK35542 => ?_
      refine wp_block_k fun Kx35651 hKx35651 => ?_
      have hb4 : ∀ (x35703 : Int) (x35704 : Int) (s35705 : (List UInt8)) (s35706 : (List UInt8)), r07_Write_b4 x35306 x35703 x35704 s35705 s35706 = some o35537 → ∀ (ac : Act) (w : World), FR 237 [] ac [(0, .slice A0 n0 c0), (1, .int .i64 a1), (7, .slice A29917 n29918 c29919), (8, .slice A29921 n29922 c29923), (9, .int .i64 x29924), (10, .int .i64 x29925), (11, .slice A32883 n32884 c32885), (12, .int .i64 x35703), (13, .int .i64 x35704), (14, str s35705), (15, str s35706), (16, .int .i64 x35306)] → SH r (own (kI .u8) 5 A29917 n29918 c29919 l29916 :: own (kI .u8) 5 A29921 n29922 c29923 l29920 :: L) w → Kx35651 ac w := by
       intro x35703 x35704 s35705 s35706 hF ac w hA hS
       unfold r07_Write_b4 at hF
       refine hKx35651 _ _ ?_
       refine hK35542 _ _ ?_
       refine wp_reg ?_
       refine x_m hA rfl fun ac hA => ?_
       obtain ⟨x35707, h35708, hF⟩ := ltt_ hF
       refine x_v (v := .int .i64 x35707) hA (rv_i h35708 (r_add rfl (hA.ev rfl) (hA.ev rfl))) rfl fun ac hA => ?_
       refine x_m hA rfl fun ac hA => ?_
       refine wpList_nil ?_
       cases hF
       exact ⟨_, N35537_ _ rfl, hA.sub _ rfl, hS⟩
      refine wp_seq_k fun K35709 hK35709 => ?_
      have hj3 : ∀ (x35716 : Int), r07_Write_j3 l32882 x35303 s35304 s35305 x35306 x35716 = some o35537 → ∀ (ac : Act) (w : World), FR 237 [] ac [(0, .slice A0 n0 c0), (1, .int .i64 a1), (7, .slice A29917 n29918 c29919), (8, .slice A29921 n29922 c29923), (9, .int .i64 x29924), (10, .int .i64 x29925), (11, .slice A32883 n32884 c32885), (12, .int .i64 x35716), (13, .int .i64 x35303), (14, str s35304), (15, str s35305), (16, .int .i64 x35306)] → SH r (own (kI .u8) 5 A29917 n29918 c29919 l29916 :: own (kI .u8) 5 A29921 n29922 c29923 l29920 :: L) w → K35709 ac w := by
       intro x35716 hF ac w hA hS
       unfold r07_Write_j3 at hF
       refine hK35709 _ _ ?_
       refine wp_seq_k fun K35717 hK35717 => ?_
       have hj4 : ∀ (x35724 : Int), r07_Write_j4 l32882 s35304 s35305 x35306 x35716 x35724 = some o35537 → ∀ (ac : Act) (w : World), FR 237 [] ac [(0, .slice A0 n0 c0), (1, .int .i64 a1), (7, .slice A29917 n29918 c29919), (8, .slice A29921 n29922 c29923), (9, .int .i64 x29924), (10, .int .i64 x29925), (11, .slice A32883 n32884 c32885), (12, .int .i64 x35716), (13, .int .i64 x35724), (14, str s35304), (15, str s35305), (16, .int .i64 x35306)] → SH r (own (kI .u8) 5 A29917 n29918 c29919 l29916 :: own (kI .u8) 5 A29921 n29922 c29923 l29920 :: L) w → K35717 ac w := by
        intro x35724 hF ac w hA hS
        unfold r07_Write_j4 at hF
        refine hK35717 _ _ ?_
        refine wp_seq_k fun K35725 hK35725 => ?_
        have hj5 : ∀ (s35732 : (List UInt8)), r07_Write_j5 l32882 s35305 x35306 x35716 x35724 s35732 = some o35537 → ∀ (ac : Act) (w : World), FR 237 [] ac [(0, .slice A0 n0 c0), (1, .int .i64 a1), (7, .slice A29917 n29918 c29919), (8, .slice A29921 n29922 c29923), (9, .int .i64 x29924), (10, .int .i64 x29925), (11, .slice A32883 n32884 c32885), (12, .int .i64 x35716), (13, .int .i64 x35724), (14, str s35732), (15, str s35305), (16, .int .i64 x35306)] → SH r (own (kI .u8) 5 A29917 n29918 c29919 l29916 :: own (kI .u8) 5 A29921 n29922 c29923 l29920 :: L) w → K35725 ac w := by
         intro s35732 hF ac w hA hS
         unfold r07_Write_j5 at hF
         refine hK35725 _ _ ?_
         refine ws fun K35733 hK35733 => ?_
         refine x_m hA rfl fun ac hA => ?_
         refine x_m hA rfl fun ac hA => ?_
         obtain ⟨x35734, h35735, hF⟩ := bnd hF
         refine x_ia Tryd.underlying22 sz44 (hS.rdl 2 h32886 rfl) h35735 hA (fun ac hA => ?_) rfl rfl rfl rfl rfl rfl
         refine x_fae (m := x35306.toNat * 5) fa44_3 hA (fun ac hA => ?_) rfl rfl rfl rfl rfl
         obtain ⟨cs, hV, hc35736⟩ := el (hS.rdl 2 h32886 rfl) h35735
         obtain rfl := hV
         refine x_ld Tryd.underlying9 (hc35736 3 _ rfl) hA (fun ac hA => ?_) rfl rfl rfl rfl rfl rfl
         refine x_m hA rfl fun ac hA => ?_
         refine x_v hA (r_gtS rfl (hA.ev rfl) (hA.ev rfl)) rfl fun ac hA => ?_
         refine wn (hK35733 _ _ ?_)
         refine c_if hA rfl (fun hb35737 => ?_) fun hb35737 => ?_
         ·replace hF := ift hb35737 hF
          refine wp_reg ?_
          refine x_m hA rfl fun ac hA => ?_
          refine x_m hA rfl fun ac hA => ?_
          refine x_ia Tryd.underlying22 sz44 (hS.rdl 2 h32886 rfl) h35735 hA (fun ac hA => ?_) rfl rfl rfl rfl rfl rfl
          refine x_fae (m := x35306.toNat * 5) fa44_3 hA (fun ac hA => ?_) rfl rfl rfl rfl rfl
          obtain ⟨cs, hV, hc35738⟩ := el (hS.rdl 2 h32886 rfl) h35735
          obtain rfl := hV
          refine x_ld Tryd.underlying9 (hc35738 3 _ rfl) hA (fun ac hA => ?_) rfl rfl rfl rfl rfl rfl
          refine x_m hA rfl fun ac hA => ?_
          refine wpList_nil ?_
          exact hb4 x35716 x35724 s35732 x35734.f3 hF ac w (hA.sub _ rfl) hS
         replace hF := iff' hb35737 hF
         refine wp_skip ?_
         exact hb4 x35716 x35724 s35732 s35305 hF ac w (hA.sub _ rfl) hS
        refine ws fun K35739 hK35739 => ?_
        refine x_m hA rfl fun ac hA => ?_
        refine x_m hA rfl fun ac hA => ?_
        obtain ⟨x35740, h35741, hF⟩ := bnd hF
        refine x_ia Tryd.underlying22 sz44 (hS.rdl 2 h32886 rfl) h35741 hA (fun ac hA => ?_) rfl rfl rfl rfl rfl rfl
        refine x_fae (m := x35306.toNat * 5) fa44_3 hA (fun ac hA => ?_) rfl rfl rfl rfl rfl
        obtain ⟨cs, hV, hc35742⟩ := el (hS.rdl 2 h32886 rfl) h35741
        obtain rfl := hV
        refine x_ld Tryd.underlying9 (hc35742 3 _ rfl) hA (fun ac hA => ?_) rfl rfl rfl rfl rfl rfl
        refine x_m hA rfl fun ac hA => ?_
        refine x_v hA (r_ltS rfl (hA.ev rfl) (hA.ev rfl)) rfl fun ac hA => ?_
        refine wn (hK35739 _ _ ?_)
        refine c_if hA rfl (fun hb35743 => ?_) fun hb35743 => ?_
        ·replace hF := ift hb35743 hF
         refine wp_reg ?_
         refine x_m hA rfl fun ac hA => ?_
         refine x_m hA rfl fun ac hA => ?_
         refine x_ia Tryd.underlying22 sz44 (hS.rdl 2 h32886 rfl) h35741 hA (fun ac hA => ?_) rfl rfl rfl rfl rfl rfl
         refine x_fae (m := x35306.toNat * 5) fa44_3 hA (fun ac hA => ?_) rfl rfl rfl rfl rfl
         obtain ⟨cs, hV, hc35744⟩ := el (hS.rdl 2 h32886 rfl) h35741
         obtain rfl := hV
         refine x_ld Tryd.underlying9 (hc35744 3 _ rfl) hA (fun ac hA => ?_) rfl rfl rfl rfl rfl rfl
         refine x_m hA rfl fun ac hA => ?_
         refine wpList_nil ?_
         exact hj5 x35740.f3 hF ac w (hA.sub _ rfl) hS
        replace hF := iff' hb35743 hF
        refine wp_skip ?_
        exact hj5 s35304 hF ac w (hA.sub _ rfl) hS
       refine ws fun K35745 hK35745 => ?_
       refine x_m hA rfl fun ac hA => ?_
       refine x_m hA rfl fun ac hA => ?_
       obtain ⟨x35746, h35747, hF⟩ := bnd hF
       refine x_ia Tryd.underlying22 sz44 (hS.rdl 2 h32886 rfl) h35747 hA (fun ac hA => ?_) rfl rfl rfl rfl rfl rfl
       refine x_fae (m := x35306.toNat * 5) fa44_2 hA (fun ac hA => ?_) rfl rfl rfl rfl rfl
       obtain ⟨cs, hV, hc35748⟩ := el (hS.rdl 2 h32886 rfl) h35747
       obtain rfl := hV
       refine x_ld Tryd.underlying2 (hc35748 2 _ rfl) hA (fun ac hA => ?_) rfl rfl rfl rfl rfl rfl
       refine x_m hA rfl fun ac hA => ?_
       refine x_v hA (r_gtI rfl (hA.ev rfl) (hA.ev rfl)) rfl fun ac hA => ?_
       refine wn (hK35745 _ _ ?_)
       refine c_if hA rfl (fun hb35749 => ?_) fun hb35749 => ?_
       ·replace hF := ift hb35749 hF
        refine wp_reg ?_
        refine x_m hA rfl fun ac hA => ?_
        refine x_m hA rfl fun ac hA => ?_
        refine x_ia Tryd.underlying22 sz44 (hS.rdl 2 h32886 rfl) h35747 hA (fun ac hA => ?_) rfl rfl rfl rfl rfl rfl
        refine x_fae (m := x35306.toNat * 5) fa44_2 hA (fun ac hA => ?_) rfl rfl rfl rfl rfl
        obtain ⟨cs, hV, hc35750⟩ := el (hS.rdl 2 h32886 rfl) h35747
        obtain rfl := hV
        refine x_ld Tryd.underlying2 (hc35750 2 _ rfl) hA (fun ac hA => ?_) rfl rfl rfl rfl rfl rfl
        refine x_m hA rfl fun ac hA => ?_
        refine wpList_nil ?_
        exact hj4 x35746.f2 hF ac w (hA.sub _ rfl) hS
       replace hF := iff' hb35749 hF
       refine wp_skip ?_
       exact hj4 x35303 hF ac w (hA.sub _ rfl) hS
      refine ws fun K35751 hK35751 => ?_
      refine x_m hA rfl fun ac hA => ?_
      refine x_m hA rfl fun ac hA => ?_
      obtain ⟨x35752, h35753, hF⟩ := bnd hF
      refine x_ia Tryd.underlying22 sz44 (hS.rdl 2 h32886 rfl) h35753 hA (fun ac hA => ?_) rfl rfl rfl rfl rfl rfl
      refine x_fae (m := x35306.toNat * 5) fa44_2 hA (fun ac hA => ?_) rfl rfl rfl rfl rfl
      obtain ⟨cs, hV, hc35754⟩ := el (hS.rdl 2 h32886 rfl) h35753
      obtain rfl := hV
      refine x_ld Tryd.underlying2 (hc35754 2 _ rfl) hA (fun ac hA => ?_) rfl rfl rfl rfl rfl rfl
      refine x_m hA rfl fun ac hA => ?_
      refine x_v hA (r_ltI rfl (hA.ev rfl) (hA.ev rfl)) rfl fun ac hA => ?_
      refine wn (hK35751 _ _ ?_)
      refine c_if hA rfl (fun hb35755 => ?_) fun hb35755 => ?_
      ·replace hF := ift hb35755 hF
       refine wp_reg ?_
       refine x_m hA rfl fun ac hA => ?_
       refine x_m hA rfl fun ac hA => ?_
       refine x_ia Tryd.underlying22 sz44 (hS.rdl 2 h32886 rfl) h35753 hA (fun ac hA => ?_) rfl rfl rfl rfl rfl rfl
       refine x_fae (m := x35306.toNat * 5) fa44_2 hA (fun ac hA => ?_) rfl rfl rfl rfl rfl
       obtain ⟨cs, hV, hc35756⟩ := el (hS.rdl 2 h32886 rfl) h35753
       obtain rfl := hV
       refine x_ld Tryd.underlying2 (hc35756 2 _ rfl) hA (fun ac hA => ?_) rfl rfl rfl rfl rfl rfl
       refine x_m hA rfl fun ac hA => ?_
       refine wpList_nil ?_
       exact hj3 x35752.f2 hF ac w (hA.sub _ rfl) hS
      replace hF := iff' hb35755 hF
      refine wp_skip ?_
      exact hj3 x35302 hF ac w (hA.sub _ rfl) hS
     replace hF := iff' hb35541 hF
     refine wp_exit ?_
     cases hF
     exact hx35537_4 x35302 x35303 s35304 s35305 (T35537_ _ rfl) ac w (hA.sub _ rfl) hS
    refine ws fun K35757 hK35757 => ?_
    refine x_m hA rfl fun ac hA => ?_
    refine x_len Tryd.underlying22 (hS.rdl 2 h32867 rfl).2.1 hA (fun ac hA => ?_) rfl rfl rfl rfl rfl
    refine x_v hA (r_gtI rfl (hA.ev rfl) (hA.ev rfl)) rfl fun ac hA => ?_
    refine wn (hK35757 _ _ ?_)
    refine c_if hA rfl (fun hb35758 => ?_) fun hb35758 => ?_
    ·replace hF := ift hb35758 hF
     refine wp_reg ?_
     refine x_m hA rfl fun ac hA => ?_
     obtain ⟨l35759, h35760, hF⟩ := bnd hF
     obtain ⟨A35763, n35764, c35765, e35762, h35761⟩ := rdl_hc h32867 h35760
     refine x_v (v := .slice A35763 n35764 c35765) hA (rv_e e35762 (r_slice_h Tryd.underlying22 sz44 rfl (hA.ev rfl) (hA.ev rfl) (cutq (hS.rdl 2 h32867 rfl) h35760).2.2.2.2.1 (cutq (hS.rdl 2 h32867 rfl) h35760).2.2.1)) rfl fun ac hA => ?_
     refine x_m hA rfl fun ac hA => ?_
     refine wpList_nil ?_
     exact hj2 l35759 hF A35763 n35764 c35765 h35761 ac w (hA.sub _ rfl) hS
    replace hF := iff' hb35758 hF
    refine wp_skip ?_
    exact hj2 l32865 hF A32869 n32870 c32871 h32867 ac w (hA.sub _ rfl) hS
   replace hF := iff' hb32861 hF
   refine wp_exit ?_
   cases hF
   exact hx32857_2 l29916 l29920 x29924 (T32857_ _ rfl) A29917 n29918 c29919 A29921 n29922 c29923 ac w (hA.sub _ rfl) hS
  obtain ⟨t35850, hl35850, hF⟩ := bnd hF
  have hR35850 := hF
  have hx35850_0 : (.inl ()) = t35850 → ∀ (ac : Act) (w : World), FR 237 [] ac [(0, .slice A0 n0 c0), (1, .int .i64 a1)] → SH r (L) w → Kx376 ac w := by
   intro ht ac w hA hS
   subst ht
   replace hF : r07_Write_x3_0 a0 a1 = some y := hF
   unfold r07_Write_x3_0 at hF
   exact hb1 hF ac w (hA.sub _ rfl) hS
  refine wp_loop_fn hl35850 (fun s ac w => FR 237 [] ac [(0, .slice A0 n0 c0), (1, .int .i64 a1), (6, .int .i64 s)] ∧ SH r (L) w) ⟨hA.sub _ rfl, hS⟩ ?_
  intro N35850 s35850 o35850 hF N35850_ T35850_ ac w hLab
  obtain ⟨x35806, rfl⟩ : ∃ q, q = s35850 := ⟨_, rfl⟩
  replace hF : r07_Write_l3 a0 a1 x35806 = some o35850 := hF
  unfold r07_Write_l3 at hF
  try dsimp only at hLab
  obtain ⟨hA, hS⟩ := hLab
  refine wp_seq_k fun K35852 hK35852 => ?_
  refine ws fun K35853 hK35853 => ?_
  refine x_m hA rfl fun ac hA => ?_
  refine x_m hA rfl fun ac hA => ?_
  refine x_len Tryd.underlying22 (hS.rdl 0 ha0 rfl).2.1 hA (fun ac hA => ?_) rfl rfl rfl rfl rfl
  refine x_v hA (r_ltI rfl (hA.ev rfl) (hA.ev rfl)) rfl fun ac hA => ?_
  refine wn (hK35853 _ _ ?_)
  refine c_if hA rfl (fun hb35854 => ?_) fun hb35854 => ?_
  ·replace hF := ift hb35854 hF
   refine wp_skip ?_
   refine hK35852 _ _ ?_
   refine wp_seq_k fun K35855 hK35855 => ?_
   refine wp_block_k fun Kx35856 hKx35856 => ?_
   refine wp_seq_k fun K35857 hK35857 => ?_
   refine ws fun K35858 hK35858 => ?_
   refine x_m hA rfl fun ac hA => ?_
   refine x_m hA rfl fun ac hA => ?_
   obtain ⟨x35859, h35860, hF⟩ := bnd hF
   refine x_ia Tryd.underlying22 sz44 (hS.rdl 0 ha0 rfl) h35860 hA (fun ac hA => ?_) rfl rfl rfl rfl rfl rfl
   obtain ⟨cs, hV, hc35861⟩ := el (hS.rdl 0 ha0 rfl) h35860
   obtain rfl := hV
   refine x_lda (cs := [.int .u64 x35859.f0, .int .i64 x35859.f1, .int .i64 x35859.f2, str x35859.f3, .float .f64 x35859.f4]) Tryd.underlying44 sz44 (fun j u h => by rw [ea_add]; exact hc35861 _ _ h) hA (fun ac hA => ?_) rfl rfl rfl rfl rfl rfl
   refine x_m hA rfl fun ac hA => ?_
   obtain ⟨y35862, h35863, hF⟩ := bnd hF
   refine x_call en31 hA (F_r06_Form (L := L) x35859 a1 h35863 hS) (fun v ac w hR hA => ?_) rfl rfl rfl rfl rfl
   obtain ⟨rfl, hS⟩ := hR
   refine x_v hA (r_not rfl (hA.ev rfl)) rfl fun ac hA => ?_
   refine wn (hK35858 _ _ ?_)
   refine c_if hA rfl (fun hb35864 => ?_) fun hb35864 => ?_
   ·replace hF := ift hb35864 hF
    refine ws fun K35865 hK35865 => ?_
    refine x_m hA rfl fun ac hA => ?_
    refine x_m hA rfl fun ac hA => ?_
    refine wn (hK35865 _ _ ?_)
    refine wp_ret ?_
    replace hS := SH.nil_own (d := (kI .u8)) (e := 5) hS
    cases hF
    have ht := T35850_ _ rfl
    subst ht
    replace hF := hR35850
    replace hF : some ([], 3) = some y := hF
    cases hF
    refine hQ _ _ ?_
    refine lv2 Tryd.results12 hA rfl rfl ?_
    exact ⟨none, 0, 0, rfl, hS⟩
   replace hF := iff' hb35864 hF
   refine wp_skip ?_
   refine hK35857 _ _ ?_
   refine wp_seq_k fun K35866 hK35866 => ?_
   have hj6 : ∀ (b35878 : Bool), r07_Write_j6 x35806 b35878 = some o35850 → ∀ (ac : Act) (w : World), FR 237 [] ac [(0, .slice A0 n0 c0), (1, .int .i64 a1), (6, .int .i64 x35806), (70, .bool b35878)] → SH r (L) w → K35866 ac w := by
    intro b35878 hF ac w hA hS
    unfold r07_Write_j6 at hF
    refine hK35866 _ _ ?_
    refine c_if hA rfl (fun hb35879 => ?_) fun hb35879 => ?_
    ·replace hF := ift hb35879 hF
     refine ws fun K35880 hK35880 => ?_
     refine x_m hA rfl fun ac hA => ?_
     refine x_m hA rfl fun ac hA => ?_
     refine wn (hK35880 _ _ ?_)
     refine wp_ret ?_
     replace hS := SH.nil_own (d := (kI .u8)) (e := 5) hS
     cases hF
     have ht := T35850_ _ rfl
     subst ht
     replace hF := hR35850
     replace hF : some ([], 8) = some y := hF
     cases hF
     refine hQ _ _ ?_
     refine lv2 Tryd.results12 hA rfl rfl ?_
     exact ⟨none, 0, 0, rfl, hS⟩
    replace hF := iff' hb35879 hF
    refine wp_skip ?_
    refine hKx35856 _ _ ?_
    refine hK35855 _ _ ?_
    refine wp_reg ?_
    refine x_m hA rfl fun ac hA => ?_
    obtain ⟨x35881, h35882, hF⟩ := ltt_ hF
    refine x_v (v := .int .i64 x35881) hA (rv_i h35882 (r_add rfl (hA.ev rfl) (hA.ev rfl))) rfl fun ac hA => ?_
    refine x_m hA rfl fun ac hA => ?_
    refine wpList_nil ?_
    cases hF
    exact ⟨_, N35850_ _ rfl, hA.sub _ rfl, hS⟩
   refine wp_draw [0, 0, 3, 7, 15, 0, 32, 96, 224, 511, 0, 1024, 4095, 8191, 16383, 16383, 65535, 131071, 262143, 16383, 540671, 1589247, 3686399, 8388607, 16777215] [] rfl hA hS (by kernel_rfl) (by kernel_rfl) (by kernel_rfl) (by kernel_rfl) fun w hS => ?_
   obtain ⟨cs, hV, hc35883⟩ := el (hS.rdl 0 ha0 rfl) h35860
   obtain rfl := hV
   obtain ⟨x35884, h35885, hF⟩ := bnd hF
   obtain ⟨cs, hV, hc35886⟩ := el (hS.rdl 0 ha0 rfl) h35885
   obtain rfl := hV
   obtain ⟨x35887, h35888, hF⟩ := ltt_ hF
   obtain ⟨x35889, h35890, hF⟩ := ltt_ hF
   refine bcase (b := x35887 != x35889) (fun hb35891 => ?_) fun hb35891 => ?_
   ·replace hF := ift hb35891 hF
    refine ⟨[(0, .slice A0 n0 c0), (1, .int .i64 x35806), (2, .pointer (some (ea A0 (x35806.toNat * 5)))), (3, .pointer (some (ea A0 (x35806.toNat * 5)))), (4, .int .u64 x35859.f0), (5, .slice A0 n0 c0), (6, .pointer (some (ea A0 ((0 : Int).toNat * 5)))), (7, .pointer (some (ea A0 ((0 : Int).toNat * 5)))), (8, .int .u64 x35884.f0), (9, .int .u64 x35887), (10, .int .i64 x35806), (11, .int .u64 x35889), (12, .bool (x35887 != x35889)), (13, .bool (x35887 != x35889)), (14, undef), (15, undef), (16, undef), (17, undef), (18, undef), (19, undef), (20, undef), (21, undef), (22, undef), (23, undef), (24, .bool true)], ?_⟩
    refine dEnd [0, 1, 2, 3, 4, 5, 6, 7, 8, 9, 10, 11, 12, 13, 14, 15, 16, 17, 18, 19, 20, 21, 22, 23, 24] (by kernel_rfl) ⟨pu rfl rfl [(0, .slice A0 n0 c0)] (fun ac hA => y_move hA rfl rfl) rfl rfl, pu rfl rfl [(6, .int .i64 x35806)] (fun ac hA => y_move hA rfl rfl) rfl rfl, pu rfl rfl [(46, .slice A0 n0 c0), (47, .int .i64 x35806)] (fun ac hA => y_ia Tryd.underlying22 sz44 (hS.rdl 0 ha0 rfl) h35860 hA rfl rfl rfl) rfl rfl, pu rfl rfl [(48, .pointer (some (ea A0 (x35806.toNat * 5))))] (fun ac hA => y_fae (m := x35806.toNat * 5) fa44_0 hA rfl rfl) rfl rfl, pu rfl rfl [(49, .pointer (some (ea A0 (x35806.toNat * 5))))] (fun ac hA => y_ld Tryd.underlying31 (hc35883 0 _ rfl) hA rfl rfl rfl) rfl rfl, pu rfl rfl [(0, .slice A0 n0 c0)] (fun ac hA => y_move hA rfl rfl) rfl rfl, pu rfl rfl [(51, .slice A0 n0 c0)] (fun ac hA => y_ia Tryd.underlying22 sz44 (hS.rdl 0 ha0 rfl) h35885 hA rfl rfl rfl) rfl rfl, pu rfl rfl [(52, .pointer (some (ea A0 ((0 : Int).toNat * 5))))] (fun ac hA => y_fae (m := (0 : Int).toNat * 5) fa44_0 hA rfl rfl) rfl rfl, pu rfl rfl [(53, .pointer (some (ea A0 ((0 : Int).toNat * 5))))] (fun ac hA => y_ld Tryd.underlying31 (hc35886 0 _ rfl) hA rfl rfl rfl) rfl rfl, pu rfl rfl [(50, .int .u64 x35859.f0), (54, .int .u64 x35884.f0)] (fun ac hA => (rv_i h35888 (r_sub rfl (hA.ev rfl) (hA.ev rfl)) : RunV _ _ _ _ (.int .u64 x35887))) rfl rfl, pu rfl rfl [(6, .int .i64 x35806)] (fun ac hA => y_move hA rfl rfl) rfl rfl, pu rfl rfl [(56, .int .i64 x35806)] (fun ac hA => (rv_i h35890 (r_convI Tryd.underlying3 Tryd.underlying31 rfl (hA.ev rfl)) : RunV _ _ _ _ (.int .u64 x35889))) rfl rfl, pu rfl rfl [(55, .int .u64 x35887), (57, .int .u64 x35889)] (fun ac hA => r_neI rfl (hA.ev rfl) (hA.ev rfl)) rfl rfl, pu rfl rfl [(58, .bool (x35887 != x35889))] (fun ac hA => y_move hA rfl rfl) rfl rfl, puOff rfl rfl rfl rfl [(0, .slice A0 n0 c0), (59, .bool (x35887 != x35889))] rfl hb35891 rfl, puOff rfl rfl rfl rfl [(6, .int .i64 x35806), (59, .bool (x35887 != x35889))] rfl hb35891 rfl, puOff rfl rfl rfl rfl [(59, .bool (x35887 != x35889)), (60, undef), (61, undef)] rfl hb35891 rfl, puOff rfl rfl rfl rfl [(59, .bool (x35887 != x35889)), (62, undef)] rfl hb35891 rfl, puOff rfl rfl rfl rfl [(59, .bool (x35887 != x35889)), (63, undef)] rfl hb35891 rfl, puOff rfl rfl rfl rfl [(0, .slice A0 n0 c0), (59, .bool (x35887 != x35889))] rfl hb35891 rfl, puOff rfl rfl rfl rfl [(59, .bool (x35887 != x35889)), (65, undef)] rfl hb35891 rfl, puOff rfl rfl rfl rfl [(59, .bool (x35887 != x35889)), (66, undef)] rfl hb35891 rfl, puOff rfl rfl rfl rfl [(59, .bool (x35887 != x35889)), (67, undef)] rfl hb35891 rfl, puOff rfl rfl rfl rfl [(59, .bool (x35887 != x35889)), (64, undef), (68, undef)] rfl hb35891 rfl, pu rfl rfl [(59, .bool (x35887 != x35889)), (69, undef)] (fun ac hA => y_pickt hb35891 hA rfl rfl rfl) rfl rfl, trivial⟩ ⟨by kernel_rfl, by kernel_rfl⟩ [(0, .slice A0 n0 c0), (1, .int .i64 a1), (6, .int .i64 x35806), (70, .bool true)] rfl (fun ac hA => ?_)
    exact hj6 true hF ac w (hA.sub _ rfl) hS
   replace hF := iff' hb35891 hF
   obtain ⟨cs, hV, hc35892⟩ := el (hS.rdl 0 ha0 rfl) h35860
   obtain rfl := hV
   obtain ⟨cs, hV, hc35893⟩ := el (hS.rdl 0 ha0 rfl) h35885
   obtain rfl := hV
   refine ⟨[(0, .slice A0 n0 c0), (1, .int .i64 x35806), (2, .pointer (some (ea A0 (x35806.toNat * 5)))), (3, .pointer (some (ea A0 (x35806.toNat * 5)))), (4, .int .u64 x35859.f0), (5, .slice A0 n0 c0), (6, .pointer (some (ea A0 ((0 : Int).toNat * 5)))), (7, .pointer (some (ea A0 ((0 : Int).toNat * 5)))), (8, .int .u64 x35884.f0), (9, .int .u64 x35887), (10, .int .i64 x35806), (11, .int .u64 x35889), (12, .bool (x35887 != x35889)), (13, .bool (x35887 != x35889)), (14, .slice A0 n0 c0), (15, .int .i64 x35806), (16, .pointer (some (ea A0 (x35806.toNat * 5)))), (17, .pointer (some (ea A0 (x35806.toNat * 5)))), (18, .int .u64 x35859.f0), (19, .slice A0 n0 c0), (20, .pointer (some (ea A0 ((0 : Int).toNat * 5)))), (21, .pointer (some (ea A0 ((0 : Int).toNat * 5)))), (22, .int .u64 x35884.f0), (23, .bool (decide (x35859.f0 < x35884.f0))), (24, .bool (decide (x35859.f0 < x35884.f0)))], ?_⟩
   refine dEnd [0, 1, 2, 3, 4, 5, 6, 7, 8, 9, 10, 11, 12, 13, 14, 15, 16, 17, 18, 19, 20, 21, 22, 23, 24] (by kernel_rfl) ⟨pu rfl rfl [(0, .slice A0 n0 c0)] (fun ac hA => y_move hA rfl rfl) rfl rfl, pu rfl rfl [(6, .int .i64 x35806)] (fun ac hA => y_move hA rfl rfl) rfl rfl, pu rfl rfl [(46, .slice A0 n0 c0), (47, .int .i64 x35806)] (fun ac hA => y_ia Tryd.underlying22 sz44 (hS.rdl 0 ha0 rfl) h35860 hA rfl rfl rfl) rfl rfl, pu rfl rfl [(48, .pointer (some (ea A0 (x35806.toNat * 5))))] (fun ac hA => y_fae (m := x35806.toNat * 5) fa44_0 hA rfl rfl) rfl rfl, pu rfl rfl [(49, .pointer (some (ea A0 (x35806.toNat * 5))))] (fun ac hA => y_ld Tryd.underlying31 (hc35883 0 _ rfl) hA rfl rfl rfl) rfl rfl, pu rfl rfl [(0, .slice A0 n0 c0)] (fun ac hA => y_move hA rfl rfl) rfl rfl, pu rfl rfl [(51, .slice A0 n0 c0)] (fun ac hA => y_ia Tryd.underlying22 sz44 (hS.rdl 0 ha0 rfl) h35885 hA rfl rfl rfl) rfl rfl, pu rfl rfl [(52, .pointer (some (ea A0 ((0 : Int).toNat * 5))))] (fun ac hA => y_fae (m := (0 : Int).toNat * 5) fa44_0 hA rfl rfl) rfl rfl, pu rfl rfl [(53, .pointer (some (ea A0 ((0 : Int).toNat * 5))))] (fun ac hA => y_ld Tryd.underlying31 (hc35886 0 _ rfl) hA rfl rfl rfl) rfl rfl, pu rfl rfl [(50, .int .u64 x35859.f0), (54, .int .u64 x35884.f0)] (fun ac hA => (rv_i h35888 (r_sub rfl (hA.ev rfl) (hA.ev rfl)) : RunV _ _ _ _ (.int .u64 x35887))) rfl rfl, pu rfl rfl [(6, .int .i64 x35806)] (fun ac hA => y_move hA rfl rfl) rfl rfl, pu rfl rfl [(56, .int .i64 x35806)] (fun ac hA => (rv_i h35890 (r_convI Tryd.underlying3 Tryd.underlying31 rfl (hA.ev rfl)) : RunV _ _ _ _ (.int .u64 x35889))) rfl rfl, pu rfl rfl [(55, .int .u64 x35887), (57, .int .u64 x35889)] (fun ac hA => r_neI rfl (hA.ev rfl) (hA.ev rfl)) rfl rfl, pu rfl rfl [(58, .bool (x35887 != x35889))] (fun ac hA => y_move hA rfl rfl) rfl rfl, puOn rfl rfl rfl rfl [(0, .slice A0 n0 c0), (59, .bool (x35887 != x35889))] rfl hb35891 (fun ac hA => y_move hA rfl rfl) rfl, puOn rfl rfl rfl rfl [(6, .int .i64 x35806), (59, .bool (x35887 != x35889))] rfl hb35891 (fun ac hA => y_move hA rfl rfl) rfl, puOn rfl rfl rfl rfl [(59, .bool (x35887 != x35889)), (60, .slice A0 n0 c0), (61, .int .i64 x35806)] rfl hb35891 (fun ac hA => y_ia Tryd.underlying22 sz44 (hS.rdl 0 ha0 rfl) h35860 hA rfl rfl rfl) rfl, puOn rfl rfl rfl rfl [(59, .bool (x35887 != x35889)), (62, .pointer (some (ea A0 (x35806.toNat * 5))))] rfl hb35891 (fun ac hA => y_fae (m := x35806.toNat * 5) fa44_0 hA rfl rfl) rfl, puOn rfl rfl rfl rfl [(59, .bool (x35887 != x35889)), (63, .pointer (some (ea A0 (x35806.toNat * 5))))] rfl hb35891 (fun ac hA => y_ld Tryd.underlying31 (hc35892 0 _ rfl) hA rfl rfl rfl) rfl, puOn rfl rfl rfl rfl [(0, .slice A0 n0 c0), (59, .bool (x35887 != x35889))] rfl hb35891 (fun ac hA => y_move hA rfl rfl) rfl, puOn rfl rfl rfl rfl [(59, .bool (x35887 != x35889)), (65, .slice A0 n0 c0)] rfl hb35891 (fun ac hA => y_ia Tryd.underlying22 sz44 (hS.rdl 0 ha0 rfl) h35885 hA rfl rfl rfl) rfl, puOn rfl rfl rfl rfl [(59, .bool (x35887 != x35889)), (66, .pointer (some (ea A0 ((0 : Int).toNat * 5))))] rfl hb35891 (fun ac hA => y_fae (m := (0 : Int).toNat * 5) fa44_0 hA rfl rfl) rfl, puOn rfl rfl rfl rfl [(59, .bool (x35887 != x35889)), (67, .pointer (some (ea A0 ((0 : Int).toNat * 5))))] rfl hb35891 (fun ac hA => y_ld Tryd.underlying31 (hc35893 0 _ rfl) hA rfl rfl rfl) rfl, puOn rfl rfl rfl rfl [(59, .bool (x35887 != x35889)), (64, .int .u64 x35859.f0), (68, .int .u64 x35884.f0)] rfl hb35891 (fun ac hA => r_ltI rfl (hA.ev rfl) (hA.ev rfl)) rfl, pu rfl rfl [(59, .bool (x35887 != x35889)), (69, .bool (decide (x35859.f0 < x35884.f0)))] (fun ac hA => y_pickf hb35891 hA rfl rfl rfl) rfl rfl, trivial⟩ ⟨by kernel_rfl, by kernel_rfl⟩ [(0, .slice A0 n0 c0), (1, .int .i64 a1), (6, .int .i64 x35806), (60, .slice A0 n0 c0), (61, .int .i64 x35806), (64, .int .u64 x35859.f0), (65, .slice A0 n0 c0), (68, .int .u64 x35884.f0), (69, .bool (decide (x35859.f0 < x35884.f0))), (70, .bool (decide (x35859.f0 < x35884.f0)))] rfl (fun ac hA => ?_)
   exact hj6 (decide (x35859.f0 < x35884.f0)) hF ac w (hA.sub _ rfl) hS
  replace hF := iff' hb35854 hF
  refine wp_exit ?_
  cases hF
  exact hx35850_0 (T35850_ _ rfl) ac w (hA.sub _ rfl) hS
 refine wp_reg ?_
 refine x_m hA rfl fun ac hA => ?_
 refine x_len Tryd.underlying22 (hS.rdl 0 ha0 rfl).2.1 hA (fun ac hA => ?_) rfl rfl rfl rfl rfl
 refine x_v hA (r_eqI rfl (hA.ev rfl) (hA.ev rfl)) rfl fun ac hA => ?_
 refine x_m hA rfl fun ac hA => ?_
 refine bcase (b := (a0.length : Int) == 0) (fun hb35894 => ?_) fun hb35894 => ?_
 ·replace hF := ift hb35894 hF
  refine x_off hb35894 hA (fun ac hA => ?_) rfl rfl rfl rfl rfl
  refine x_off hb35894 hA (fun ac hA => ?_) rfl rfl rfl rfl rfl
  refine x_pickt hb35894 hA (fun ac hA => ?_) rfl rfl rfl rfl rfl rfl
  refine x_m hA rfl fun ac hA => ?_
  refine x_off rfl hA (fun ac hA => ?_) rfl rfl rfl rfl rfl
  refine x_off rfl hA (fun ac hA => ?_) rfl rfl rfl rfl rfl
  refine x_pickt rfl hA (fun ac hA => ?_) rfl rfl rfl rfl rfl rfl
  refine wpList_nil ?_
  exact hj1 true hF ac w (hA.sub _ rfl) hS
 replace hF := iff' hb35894 hF
 refine x_on hb35894 hA ?_ rfl rfl rfl
 refine x_m hA rfl fun ac hA => ?_
 refine x_on hb35894 hA ?_ rfl rfl rfl
 refine x_v hA (r_ltI rfl (hA.ev rfl) (hA.ev rfl)) rfl fun ac hA => ?_
 refine x_pickf hb35894 hA (fun ac hA => ?_) rfl rfl rfl rfl rfl rfl
 refine x_m hA rfl fun ac hA => ?_
 refine bcase (b := decide (a1 < 1)) (fun hb35895 => ?_) fun hb35895 => ?_
 ·replace hF := ift hb35895 hF
  refine x_off hb35895 hA (fun ac hA => ?_) rfl rfl rfl rfl rfl
  refine x_off hb35895 hA (fun ac hA => ?_) rfl rfl rfl rfl rfl
  refine x_pickt hb35895 hA (fun ac hA => ?_) rfl rfl rfl rfl rfl rfl
  refine wpList_nil ?_
  exact hj1 true hF ac w (hA.sub _ rfl) hS
 replace hF := iff' hb35895 hF
 refine x_on hb35895 hA ?_ rfl rfl rfl
 refine x_m hA rfl fun ac hA => ?_
 refine x_on hb35895 hA ?_ rfl rfl rfl
 refine x_v hA (r_gtI rfl (hA.ev rfl) (hA.ev rfl)) rfl fun ac hA => ?_
 refine x_pickf hb35895 hA (fun ac hA => ?_) rfl rfl rfl rfl rfl rfl
 refine wpList_nil ?_
 exact hj1 (decide (8 < a1)) hF ac w (hA.sub _ rfl) hS
end Go.Proofs.YteodeedejjcmgaaDoor.M
namespace Go.Proofs.YteodeedejjcmgaaDoor.M
open Go Go.RowKit Go.Proofs.YteodeedejjcmgaaDoor.E
set_option linter.unusedVariables false
set_option linter.unusedSimpArgs false
noncomputable def law07_awake_j1 (y347 : ((Option S83) × Int)) (b358 : Bool) : Option (Bool) :=
  if b358 = true then (some false) else ((segment_Segment_Chunks y347.1).bind fun y362 => (if ((y362.length : Int) == 3) = true then ((at_ y362 0).bind fun x369 => (if (x369.f0 == 64) = true then ((at_ y362 2).bind fun x373 => (if (x373.f0 == 2) = true then (some true) else (some false))) else (some false))) else (some false)))
noncomputable def law07_awake_b1 (l323 : (List S44)) : Option (Bool) :=
  (segment_Write l323 1).bind fun y332 => ((segment_Open y332.1).bind fun y347 => (if (y332.2 != 0) = true then (law07_awake_j1 y347 true) else (law07_awake_j1 y347 (y347.2 != 0))))
noncomputable def law07_awake_x1_0 (l429 : (List S44)) : Option (Bool) :=
  law07_awake_b1 l429
noncomputable def law07_awake_l1 (l405 : (List S44)) (x409 : Int) : Option (((List S44) × Int) ⊕ (((List S44)))) :=
  if (decide (x409 < 130)) = true then (ltt (IntKind.u64.wrap x409) fun x439 => (chk (l405.length + [(⟨x439, 0, x409, [], 0⟩ : S44)].length ≤ 140737488355328 / 48) (ltt (IntKind.i64.wrap (x409 + 1)) fun x446 => (some (.inl (l405 ++ [(⟨x439, 0, x409, [], 0⟩ : S44)], x446)))))) else (some (.inr (l405)))
noncomputable def law07_awake : Option (Bool) :=
  (loop (fun s => law07_awake_l1 s.1 s.2) ([], 0)).bind fun t => law07_awake_x1_0 t
end Go.Proofs.YteodeedejjcmgaaDoor.M
namespace Go.Proofs.YteodeedejjcmgaaDoor.M
open Go Go.RowKit Go.Proofs.YteodeedejjcmgaaDoor.E
set_option linter.unusedVariables false
set_option maxRecDepth 100000
set_option maxHeartbeats 4000000
set_option linter.unusedSimpArgs false
theorem F_law07_awake {r : World} {L : List HP} {w : World} {Z : Nat → Prop} {wz : World} {y : (Bool)} (hF : law07_awake = some y) (hG0 : Imm Z wz (kI .u32) (some ⟨0, 0, none⟩) 16 16 gl_page_table) (hS : SH r (zone Z wz :: L) w) :
  Ret Tryd.prog 10 #[] w fun v w' => ∃ (Z' : Nat → Prop) (wz' : World), v = .bool y ∧ Sub Z wz Z' wz' ∧ SH r (zone Z' wz' :: L) w' := by
 refine enter Tryd.func10 rfl Tryd.ntmps10 [] rfl (by simp) ?_
 intro ac hA Qf hQ hQn
 unfold law07_awake at hF
 refine ws fun K101 hK101 => ?_
 refine x_m hA rfl fun ac hA => ?_
 refine wn (hK101 _ _ ?_)
 refine ws fun K102 hK102 => ?_
 refine x_m hA rfl fun ac hA => ?_
 refine wn (hK102 _ _ ?_)
 refine wp_seq_k fun K103 hK103 => ?_
 refine ws fun K251 hK251 => ?_
 refine x_m hA rfl fun ac hA => ?_
 refine wn (hK251 _ _ ?_)
 refine wp_block_k fun Kx252 hKx252 => ?_
 have hb1 : ∀ (l323 : (List S44)), law07_awake_b1 l323 = some y → ∀ (A324 : Option Addr) (n325 : Nat) (c326 : Nat) (ac : Act) (w : World), FR 58 [] ac [(1, .slice A324 n325 c326)] → SH r (own k44 44 A324 n325 c326 l323 :: zone Z wz :: L) w → Kx252 ac w := by
  intro l323 hF A324 n325 c326 ac w hA hS
  unfold law07_awake_b1 at hF
  refine hKx252 _ _ ?_
  refine hK103 _ _ ?_
  refine ws fun K327 hK327 => ?_
  refine x_m hA rfl fun ac hA => ?_
  replace hS := hS.pk 1
  replace hS := hS.pk 1
  obtain ⟨Z328, wz329, hS, h330, sb331⟩ := SH.freeze (n := n325) (c := c326) (A := A324) hS
  obtain ⟨y332, h333, hF⟩ := bnd hF
  refine x_call en11 hA (F_segment_Write (L := L) l323 1 A324 n325 c326 h333 h330 (Imm.sub hG0 sb331) hS) (fun v ac w hR hA => ?_) rfl rfl rfl rfl rfl
  obtain ⟨Z334, wz335, B336, m337, d338, rfl, h339, hS⟩ := hR
  have h340 := Imm.sub h330 h339
  refine x_m hA rfl fun ac hA => ?_
  refine x_v hA (r_extract rfl (hA.ev rfl) rfl) rfl fun ac hA => ?_
  refine x_v hA (r_extract rfl (hA.ev rfl) rfl) rfl fun ac hA => ?_
  refine x_m hA rfl fun ac hA => ?_
  refine x_m hA rfl fun ac hA => ?_
  refine wn (hK327 _ _ ?_)
  refine ws fun K341 hK341 => ?_
  refine x_m hA rfl fun ac hA => ?_
  replace hS := hS.pk 1
  replace hS := hS.pk 1
  obtain ⟨Z342, wz343, hS, h344, sb345⟩ := SH.freeze (n := m337) (c := d338) (A := B336) hS
  have h346 := Imm.sub h340 sb345
  obtain ⟨y347, h348, hF⟩ := bnd hF
  refine x_call en14 hA (F_segment_Open (L := L) y332.1 B336 m337 d338 h348 h344 (Imm.sub hG0 (Sub.trans (Sub.trans sb331 h339) sb345)) hS) (fun v ac w hR hA => ?_) rfl rfl rfl rfl rfl
  obtain ⟨Z349, wz350, p351, rfl, h352, hS⟩ := hR
  have h353 := Imm.sub h346 h352
  have h354 := Imm.sub h344 h352
  refine x_m hA rfl fun ac hA => ?_
  refine x_v hA (r_extract rfl (hA.ev rfl) rfl) rfl fun ac hA => ?_
  refine x_v hA (r_extract rfl (hA.ev rfl) rfl) rfl fun ac hA => ?_
  refine x_m hA rfl fun ac hA => ?_
  refine x_m hA rfl fun ac hA => ?_
  refine wn (hK341 _ _ ?_)
  refine wp_seq_k fun K355 hK355 => ?_
  refine wp_seq_k fun K356 hK356 => ?_
  have hj1 : ∀ (b358 : Bool), law07_awake_j1 y347 b358 = some y → ∀ (ac : Act) (w : World), FR 58 [] ac [(5, .pointer p351), (34, .bool b358)] → SH r (optP (obj83 Z349 wz350) p351 y347.1 :: zone Z349 wz350 :: L) w → K356 ac w := by
   intro b358 hF ac w hA hS
   unfold law07_awake_j1 at hF
   refine hK356 _ _ ?_
   refine c_if hA rfl (fun hb359 => ?_) fun hb359 => ?_
   ·replace hF := ift hb359 hF
    refine ws fun K360 hK360 => ?_
    refine x_m hA rfl fun ac hA => ?_
    refine wn (hK360 _ _ ?_)
    refine wp_ret ?_
    replace hS := hS.drop 0
    cases hF
    refine hQ _ _ ?_
    refine lv Tryd.results10 hA rfl ?_
    exact ⟨Z349, wz350, rfl, (Sub.trans (Sub.trans (Sub.trans sb331 h339) sb345) h352), hS⟩
   replace hF := iff' hb359 hF
   refine wp_skip ?_
   refine hK355 _ _ ?_
   refine ws fun K361 hK361 => ?_
   refine x_m hA rfl fun ac hA => ?_
   obtain ⟨y362, h363, hF⟩ := bnd hF
   refine x_call en15 hA (F_segment_Segment_Chunks (L := zone Z349 wz350 :: L) y347.1 p351 h363 0 rfl hS) (fun v ac w hR hA => ?_) rfl rfl rfl rfl rfl
   obtain ⟨B364, m365, d366, rfl, hS⟩ := hR
   refine x_m hA rfl fun ac hA => ?_
   refine wn (hK361 _ _ ?_)
   refine ws fun K367 hK367 => ?_
   refine x_m hA rfl fun ac hA => ?_
   refine x_len Tryd.underlying38 (hS.rd 0 rfl).2.1 hA (fun ac hA => ?_) rfl rfl rfl rfl rfl
   refine x_v hA (r_eqI rfl (hA.ev rfl) (hA.ev rfl)) rfl fun ac hA => ?_
   refine x_m hA rfl fun ac hA => ?_
   refine bcase (b := (y362.length : Int) == 3) (fun hb368 => ?_) fun hb368 => ?_
   ·replace hF := ift hb368 hF
    refine x_on hb368 hA ?_ rfl rfl rfl
    refine x_m hA rfl fun ac hA => ?_
    refine x_on hb368 hA ?_ rfl rfl rfl
    obtain ⟨x369, h370, hF⟩ := bnd hF
    refine x_ia Tryd.underlying38 sz41 (hS.rd 0 rfl) h370 hA (fun ac hA => ?_) rfl rfl rfl rfl rfl rfl
    refine x_on hb368 hA ?_ rfl rfl rfl
    refine x_fae (m := (0 : Int).toNat * 8) fa41_0 hA (fun ac hA => ?_) rfl rfl rfl rfl rfl
    refine x_on hb368 hA ?_ rfl rfl rfl
    obtain ⟨cs, hV, hc371⟩ := el (hS.rd 0 rfl) h370
    obtain rfl := hV
    refine x_ld Tryd.underlying3 (hc371 0 _ rfl) hA (fun ac hA => ?_) rfl rfl rfl rfl rfl rfl
    refine x_on hb368 hA ?_ rfl rfl rfl
    refine x_v hA (r_eqI rfl (hA.ev rfl) (hA.ev rfl)) rfl fun ac hA => ?_
    refine x_pickt hb368 hA (fun ac hA => ?_) rfl rfl rfl rfl rfl rfl
    refine x_m hA rfl fun ac hA => ?_
    refine bcase (b := x369.f0 == 64) (fun hb372 => ?_) fun hb372 => ?_
    ·replace hF := ift hb372 hF
     refine x_on hb372 hA ?_ rfl rfl rfl
     refine x_m hA rfl fun ac hA => ?_
     refine x_on hb372 hA ?_ rfl rfl rfl
     obtain ⟨x373, h374, hF⟩ := bnd hF
     refine x_ia Tryd.underlying38 sz41 (hS.rd 0 rfl) h374 hA (fun ac hA => ?_) rfl rfl rfl rfl rfl rfl
     refine x_on hb372 hA ?_ rfl rfl rfl
     refine x_fae (m := (2 : Int).toNat * 8) fa41_0 hA (fun ac hA => ?_) rfl rfl rfl rfl rfl
     refine x_on hb372 hA ?_ rfl rfl rfl
     obtain ⟨cs, hV, hc375⟩ := el (hS.rd 0 rfl) h374
     obtain rfl := hV
     refine x_ld Tryd.underlying3 (hc375 0 _ rfl) hA (fun ac hA => ?_) rfl rfl rfl rfl rfl rfl
     refine x_on hb372 hA ?_ rfl rfl rfl
     refine x_v hA (r_eqI rfl (hA.ev rfl) (hA.ev rfl)) rfl fun ac hA => ?_
     refine x_pickt hb372 hA (fun ac hA => ?_) rfl rfl rfl rfl rfl rfl
     refine x_m hA rfl fun ac hA => ?_
     refine bcase (b := x373.f0 == 2) (fun hb376 => ?_) fun hb376 => ?_
     ·replace hF := ift hb376 hF
      refine x_pickt hb376 hA (fun ac hA => ?_) rfl rfl rfl rfl rfl rfl
      refine x_m hA rfl fun ac hA => ?_
      refine x_pickt rfl hA (fun ac hA => ?_) rfl rfl rfl rfl rfl rfl
      refine x_m hA rfl fun ac hA => ?_
      refine wn (hK367 _ _ ?_)
      refine wp_ret ?_
      replace hS := hS.drop 0
      replace hS := hS.drop 0
      cases hF
      refine hQ _ _ ?_
      refine lv Tryd.results10 hA rfl ?_
      exact ⟨Z349, wz350, rfl, (Sub.trans (Sub.trans (Sub.trans sb331 h339) sb345) h352), hS⟩
     replace hF := iff' hb376 hF
     refine x_pickf hb376 hA (fun ac hA => ?_) rfl rfl rfl rfl rfl rfl
     refine x_m hA rfl fun ac hA => ?_
     refine x_pickf rfl hA (fun ac hA => ?_) rfl rfl rfl rfl rfl rfl
     refine x_m hA rfl fun ac hA => ?_
     refine wn (hK367 _ _ ?_)
     refine wp_ret ?_
     replace hS := hS.drop 0
     replace hS := hS.drop 0
     cases hF
     refine hQ _ _ ?_
     refine lv Tryd.results10 hA rfl ?_
     exact ⟨Z349, wz350, rfl, (Sub.trans (Sub.trans (Sub.trans sb331 h339) sb345) h352), hS⟩
    replace hF := iff' hb372 hF
    refine x_off hb372 hA (fun ac hA => ?_) rfl rfl rfl rfl rfl
    refine x_off hb372 hA (fun ac hA => ?_) rfl rfl rfl rfl rfl
    refine x_off hb372 hA (fun ac hA => ?_) rfl rfl rfl rfl rfl
    refine x_off hb372 hA (fun ac hA => ?_) rfl rfl rfl rfl rfl
    refine x_off hb372 hA (fun ac hA => ?_) rfl rfl rfl rfl rfl
    refine x_pickf hb372 hA (fun ac hA => ?_) rfl rfl rfl rfl rfl rfl
    refine x_m hA rfl fun ac hA => ?_
    refine x_pickf rfl hA (fun ac hA => ?_) rfl rfl rfl rfl rfl rfl
    refine x_m hA rfl fun ac hA => ?_
    refine x_pickf rfl hA (fun ac hA => ?_) rfl rfl rfl rfl rfl rfl
    refine x_m hA rfl fun ac hA => ?_
    refine wn (hK367 _ _ ?_)
    refine wp_ret ?_
    replace hS := hS.drop 0
    replace hS := hS.drop 0
    cases hF
    refine hQ _ _ ?_
    refine lv Tryd.results10 hA rfl ?_
    exact ⟨Z349, wz350, rfl, (Sub.trans (Sub.trans (Sub.trans sb331 h339) sb345) h352), hS⟩
   replace hF := iff' hb368 hF
   refine x_off hb368 hA (fun ac hA => ?_) rfl rfl rfl rfl rfl
   refine x_off hb368 hA (fun ac hA => ?_) rfl rfl rfl rfl rfl
   refine x_off hb368 hA (fun ac hA => ?_) rfl rfl rfl rfl rfl
   refine x_off hb368 hA (fun ac hA => ?_) rfl rfl rfl rfl rfl
   refine x_off hb368 hA (fun ac hA => ?_) rfl rfl rfl rfl rfl
   refine x_pickf hb368 hA (fun ac hA => ?_) rfl rfl rfl rfl rfl rfl
   refine x_m hA rfl fun ac hA => ?_
   refine x_off rfl hA (fun ac hA => ?_) rfl rfl rfl rfl rfl
   refine x_off rfl hA (fun ac hA => ?_) rfl rfl rfl rfl rfl
   refine x_off rfl hA (fun ac hA => ?_) rfl rfl rfl rfl rfl
   refine x_off rfl hA (fun ac hA => ?_) rfl rfl rfl rfl rfl
   refine x_off rfl hA (fun ac hA => ?_) rfl rfl rfl rfl rfl
   refine x_pickf rfl hA (fun ac hA => ?_) rfl rfl rfl rfl rfl rfl
   refine x_m hA rfl fun ac hA => ?_
   refine x_pickf rfl hA (fun ac hA => ?_) rfl rfl rfl rfl rfl rfl
   refine x_m hA rfl fun ac hA => ?_
   refine x_pickf rfl hA (fun ac hA => ?_) rfl rfl rfl rfl rfl rfl
   refine x_m hA rfl fun ac hA => ?_
   refine wn (hK367 _ _ ?_)
   refine wp_ret ?_
   replace hS := hS.drop 0
   replace hS := hS.drop 0
   cases hF
   refine hQ _ _ ?_
   refine lv Tryd.results10 hA rfl ?_
   exact ⟨Z349, wz350, rfl, (Sub.trans (Sub.trans (Sub.trans sb331 h339) sb345) h352), hS⟩
  refine wp_reg ?_
  refine x_m hA rfl fun ac hA => ?_
  refine x_v hA (r_neI rfl (hA.ev rfl) (hA.ev rfl)) rfl fun ac hA => ?_
  refine x_m hA rfl fun ac hA => ?_
  refine bcase (b := y332.2 != 0) (fun hb377 => ?_) fun hb377 => ?_
  ·replace hF := ift hb377 hF
   refine x_off hb377 hA (fun ac hA => ?_) rfl rfl rfl rfl rfl
   refine x_off hb377 hA (fun ac hA => ?_) rfl rfl rfl rfl rfl
   refine x_pickt hb377 hA (fun ac hA => ?_) rfl rfl rfl rfl rfl rfl
   refine wpList_nil ?_
   exact hj1 true hF ac w (hA.sub _ rfl) hS
  replace hF := iff' hb377 hF
  refine x_on hb377 hA ?_ rfl rfl rfl
  refine x_m hA rfl fun ac hA => ?_
  refine x_on hb377 hA ?_ rfl rfl rfl
  refine x_v hA (r_neI rfl (hA.ev rfl) (hA.ev rfl)) rfl fun ac hA => ?_
  refine x_pickf hb377 hA (fun ac hA => ?_) rfl rfl rfl rfl rfl rfl
  refine wpList_nil ?_
  exact hj1 (y347.2 != 0) hF ac w (hA.sub _ rfl) hS
 obtain ⟨t432, hl432, hF⟩ := bnd hF
 have hx432_0 : ∀ (l429 : (List S44)), (l429) = t432 → ∀ (A430 : Option Addr) (n431 : Nat) (c432 : Nat) (ac : Act) (w : World), FR 58 [] ac [(1, .slice A430 n431 c432)] → SH r (own k44 44 A430 n431 c432 l429 :: zone Z wz :: L) w → Kx252 ac w := by
  intro l429 ht A430 n431 c432 ac w hA hS
  subst ht
  replace hF : law07_awake_x1_0 l429 = some y := hF
  unfold law07_awake_x1_0 at hF
  exact hb1 l429 hF A430 n431 c432 ac w (hA.sub _ rfl) hS
 replace hS := SH.nil_own (d := k44) (e := 44) hS
 refine wp_loop_fn hl432 (fun s ac w => ∃ (A406 : Option Addr) (n407 : Nat) (c408 : Nat), FR 58 [] ac [(1, .slice A406 n407 c408), (2, .int .i64 s.2)] ∧ SH r (own k44 44 A406 n407 c408 s.1 :: zone Z wz :: L) w) ⟨none, 0, 0, hA.sub _ rfl, hS⟩ ?_
 intro N432 s432 o432 hF N432_ T432_ ac w hLab
 obtain ⟨l405, x409⟩ := s432
 replace hF : law07_awake_l1 l405 x409 = some o432 := hF
 unfold law07_awake_l1 at hF
 try dsimp only at hLab
 obtain ⟨A406, n407, c408, hA, hS⟩ := hLab
 refine wp_seq_k fun K434 hK434 => ?_
 refine ws fun K435 hK435 => ?_
 refine x_m hA rfl fun ac hA => ?_
 refine x_v hA (r_ltI rfl (hA.ev rfl) (hA.ev rfl)) rfl fun ac hA => ?_
 refine wn (hK435 _ _ ?_)
 refine c_if hA rfl (fun hb436 => ?_) fun hb436 => ?_
 ·replace hF := ift hb436 hF
  refine wp_skip ?_
  refine hK434 _ _ ?_
  refine wp_seq_k fun K437 hK437 => ?_
  refine wp_block_k fun Kx438 hKx438 => ?_
  refine wp_reg ?_
  refine x_m hA rfl fun ac hA => ?_
  refine x_m hA rfl fun ac hA => ?_
  obtain ⟨x439, h440, hF⟩ := ltt_ hF
  refine x_v (v := .int .u64 x439) hA (rv_i h440 (r_convI Tryd.underlying3 Tryd.underlying31 rfl (hA.ev rfl))) rfl fun ac hA => ?_
  refine x_m hA rfl fun ac hA => ?_
  refine x_v (v := .agg #[.int .u64 x439, .int .i64 0, .int .i64 x409, str [], .float .f64 0]) hA (r_build (ps := #[(0, .int .u64 x439), (2, .int .i64 x409)]) rfl (mapev2 hA rfl) (fun w => by kernel_rfl)) rfl fun ac hA => ?_
  refine x_bsl (d := k44) (e := 44) (ps := #[(0, .agg #[.int .u64 x439, .int .i64 0, .int .i64 x409, str [], .float .f64 0])]) (cells := [.int .u64 x439, .int .i64 0, .int .i64 x409, str [], .float .f64 0]) (xs := [(⟨x439, 0, x409, [], 0⟩ : S44)]) (fun w => by kernel_rfl) rfl ⟨[.int .u64 x439, .int .i64 0, .int .i64 x409, str [], .float .f64 0], _, rfl, rfl, rfl⟩ hA hS (fun g441 ac w hS hA => ?_) rfl rfl rfl rfl rfl rfl
  obtain ⟨h442, hF⟩ := chk_some hF
  have hr := hS.rd 0 rfl
  refine x_app 1 inf44 Tryd.underlying22 hA hS hr.1 hr.2.1 h442 rfl (fun A443 n444 c445 ac w hS hA => ?_) rfl rfl rfl rfl rfl rfl rfl rfl rfl
  refine x_m hA rfl fun ac hA => ?_
  refine wpList_nil ?_
  refine hKx438 _ _ ?_
  refine hK437 _ _ ?_
  refine wp_reg ?_
  refine x_m hA rfl fun ac hA => ?_
  obtain ⟨x446, h447, hF⟩ := ltt_ hF
  refine x_v (v := .int .i64 x446) hA (rv_i h447 (r_add rfl (hA.ev rfl) (hA.ev rfl))) rfl fun ac hA => ?_
  refine x_m hA rfl fun ac hA => ?_
  refine wpList_nil ?_
  replace hS := hS.drop 1
  cases hF
  exact ⟨_, N432_ _ rfl, A443, n444, c445, hA.sub _ rfl, hS⟩
 replace hF := iff' hb436 hF
 refine wp_exit ?_
 cases hF
 exact hx432_0 l405 (T432_ _ rfl) A406 n407 c408 ac w (hA.sub _ rfl) hS
end Go.Proofs.YteodeedejjcmgaaDoor.M
namespace Go.Proofs.YteodeedejjcmgaaDoor.M
open Go Go.RowKit Go.Proofs.YteodeedejjcmgaaDoor.E
set_option linter.unusedVariables false
set_option linter.unusedSimpArgs false
noncomputable def law07_SegmentWrites_j1 (a0 : (List S44)) (a1 : Int) (b115 : Bool) : Option (Bool) :=
  if b115 = true then ((law07_awake).bind fun y118 => (some y118)) else ((segment_Write a0 a1).bind fun y125 => ((r07_Write a0 a1).bind fun y135 => (if (y125.2 == y135.2) = true then (some ((bts y125.1) == (bts y135.1))) else (some false))))
noncomputable def law07_SegmentWrites (a0 : (List S44)) (a1 : Int) : Option (Bool) :=
  (law07_awake).bind fun y142 => (if (!y142) = true then (law07_SegmentWrites_j1 a0 a1 true) else (law07_SegmentWrites_j1 a0 a1 (decide (200 < (a0.length : Int)))))
end Go.Proofs.YteodeedejjcmgaaDoor.M
namespace Go.Proofs.YteodeedejjcmgaaDoor.M
open Go Go.RowKit Go.Proofs.YteodeedejjcmgaaDoor.E
set_option linter.unusedVariables false
set_option maxRecDepth 100000
set_option maxHeartbeats 4000000
set_option linter.unusedSimpArgs false
theorem F_law07_SegmentWrites {r : World} {L : List HP} {w : World} {Z : Nat → Prop} {wz : World} (a0 : (List S44)) (a1 : Int) (A0 : Option Addr) (n0 : Nat) (c0 : Nat) {y : (Bool)} (hF : law07_SegmentWrites a0 a1 = some y) (ha0 : Imm Z wz k44 A0 n0 c0 a0) (hG0 : Imm Z wz (kI .u32) (some ⟨0, 0, none⟩) 16 16 gl_page_table) (hS : SH r (zone Z wz :: L) w) :
  Ret Tryd.prog 3 #[.slice A0 n0 c0, .int .i64 a1] w fun v w' => ∃ (Z' : Nat → Prop) (wz' : World), v = .bool y ∧ Sub Z wz Z' wz' ∧ SH r (zone Z' wz' :: L) w' := by
 refine enter Tryd.func3 rfl Tryd.ntmps3 [(0, .slice A0 n0 c0), (1, .int .i64 a1)] rfl (by simp) ?_
 intro ac hA Qf hQ hQn
 unfold law07_SegmentWrites at hF
 refine ws fun K101 hK101 => ?_
 refine x_m hA rfl fun ac hA => ?_
 refine wn (hK101 _ _ ?_)
 refine wp_seq_k fun K102 hK102 => ?_
 refine wp_seq_k fun K103 hK103 => ?_
 have hj1 : ∀ (b115 : Bool), law07_SegmentWrites_j1 a0 a1 b115 = some y → ∀ (Z111 : Nat → Prop) (wz112 : World) (h113 : Sub Z wz Z111 wz112) (h114 : Imm Z111 wz112 k44 A0 n0 c0 a0) (ac : Act) (w : World), FR 39 [] ac [(0, .slice A0 n0 c0), (1, .int .i64 a1), (15, .bool b115)] → SH r (zone Z111 wz112 :: L) w → K103 ac w := by
  intro b115 hF Z111 wz112 h113 h114 ac w hA hS
  unfold law07_SegmentWrites_j1 at hF
  refine hK103 _ _ ?_
  refine c_if hA rfl (fun hb116 => ?_) fun hb116 => ?_
  ·replace hF := ift hb116 hF
   refine ws fun K117 hK117 => ?_
   obtain ⟨y118, h119, hF⟩ := bnd hF
   refine x_call en10 hA (F_law07_awake (L := L) h119 (Imm.sub hG0 h113) hS) (fun v ac w hR hA => ?_) rfl rfl rfl rfl rfl
   obtain ⟨Z120, wz121, rfl, h122, hS⟩ := hR
   have h123 := Imm.sub h114 h122
   refine x_m hA rfl fun ac hA => ?_
   refine wn (hK117 _ _ ?_)
   refine wp_ret ?_
   cases hF
   refine hQ _ _ ?_
   refine lv Tryd.results3 hA rfl ?_
   exact ⟨Z120, wz121, rfl, (Sub.trans h113 h122), hS⟩
  replace hF := iff' hb116 hF
  refine wp_skip ?_
  refine hK102 _ _ ?_
  refine ws fun K124 hK124 => ?_
  refine x_m hA rfl fun ac hA => ?_
  refine x_m hA rfl fun ac hA => ?_
  obtain ⟨y125, h126, hF⟩ := bnd hF
  refine x_call en11 hA (F_segment_Write (L := L) a0 a1 A0 n0 c0 h126 h114 (Imm.sub hG0 h113) hS) (fun v ac w hR hA => ?_) rfl rfl rfl rfl rfl
  obtain ⟨Z127, wz128, B129, m130, d131, rfl, h132, hS⟩ := hR
  have h133 := Imm.sub h114 h132
  refine x_m hA rfl fun ac hA => ?_
  refine x_v hA (r_extract rfl (hA.ev rfl) rfl) rfl fun ac hA => ?_
  refine x_v hA (r_extract rfl (hA.ev rfl) rfl) rfl fun ac hA => ?_
  refine x_m hA rfl fun ac hA => ?_
  refine x_m hA rfl fun ac hA => ?_
  refine wn (hK124 _ _ ?_)
  refine ws fun K134 hK134 => ?_
  refine x_m hA rfl fun ac hA => ?_
  refine x_m hA rfl fun ac hA => ?_
  obtain ⟨y135, h136, hF⟩ := bnd hF
  refine x_call en12 hA (F_r07_Write (L := own (kI .u8) 5 B129 m130 d131 y125.1 :: zone Z127 wz128 :: L) a0 a1 A0 n0 c0 h136 (h133.rdl 1 rfl) hS) (fun v ac w hR hA => ?_) rfl rfl rfl rfl rfl
  obtain ⟨B137, m138, d139, rfl, hS⟩ := hR
  refine x_m hA rfl fun ac hA => ?_
  refine x_v hA (r_extract rfl (hA.ev rfl) rfl) rfl fun ac hA => ?_
  refine x_v hA (r_extract rfl (hA.ev rfl) rfl) rfl fun ac hA => ?_
  refine x_m hA rfl fun ac hA => ?_
  refine x_m hA rfl fun ac hA => ?_
  refine wn (hK134 _ _ ?_)
  refine ws fun K140 hK140 => ?_
  refine x_m hA rfl fun ac hA => ?_
  refine x_m hA rfl fun ac hA => ?_
  refine x_v hA (r_eqI rfl (hA.ev rfl) (hA.ev rfl)) rfl fun ac hA => ?_
  refine x_m hA rfl fun ac hA => ?_
  refine bcase (b := y125.2 == y135.2) (fun hb141 => ?_) fun hb141 => ?_
  ·replace hF := ift hb141 hF
   refine x_on hb141 hA ?_ rfl rfl rfl
   refine x_m hA rfl fun ac hA => ?_
   refine x_on hb141 hA ?_ rfl rfl rfl
   refine x_b2s Tryd.underlying24 Tryd.underlying5 Tryd.underlying9 (hS.rd 1 rfl) hA (fun ac hA => ?_) rfl rfl rfl rfl rfl
   refine x_on hb141 hA ?_ rfl rfl rfl
   refine x_m hA rfl fun ac hA => ?_
   refine x_on hb141 hA ?_ rfl rfl rfl
   refine x_b2s Tryd.underlying24 Tryd.underlying5 Tryd.underlying9 (hS.rd 0 rfl) hA (fun ac hA => ?_) rfl rfl rfl rfl rfl
   refine x_on hb141 hA ?_ rfl rfl rfl
   refine x_v hA (r_eqS rfl (hA.ev rfl) (hA.ev rfl)) rfl fun ac hA => ?_
   refine x_pickt hb141 hA (fun ac hA => ?_) rfl rfl rfl rfl rfl rfl
   refine x_m hA rfl fun ac hA => ?_
   refine wn (hK140 _ _ ?_)
   refine wp_ret ?_
   replace hS := hS.drop 0
   replace hS := hS.drop 0
   cases hF
   refine hQ _ _ ?_
   refine lv Tryd.results3 hA rfl ?_
   exact ⟨Z127, wz128, rfl, (Sub.trans h113 h132), hS⟩
  replace hF := iff' hb141 hF
  refine x_off hb141 hA (fun ac hA => ?_) rfl rfl rfl rfl rfl
  refine x_off hb141 hA (fun ac hA => ?_) rfl rfl rfl rfl rfl
  refine x_off hb141 hA (fun ac hA => ?_) rfl rfl rfl rfl rfl
  refine x_off hb141 hA (fun ac hA => ?_) rfl rfl rfl rfl rfl
  refine x_off hb141 hA (fun ac hA => ?_) rfl rfl rfl rfl rfl
  refine x_pickf hb141 hA (fun ac hA => ?_) rfl rfl rfl rfl rfl rfl
  refine x_m hA rfl fun ac hA => ?_
  refine wn (hK140 _ _ ?_)
  refine wp_ret ?_
  replace hS := hS.drop 0
  replace hS := hS.drop 0
  cases hF
  refine hQ _ _ ?_
  refine lv Tryd.results3 hA rfl ?_
  exact ⟨Z127, wz128, rfl, (Sub.trans h113 h132), hS⟩
 refine wp_reg ?_
 obtain ⟨y142, h143, hF⟩ := bnd hF
 refine x_call en10 hA (F_law07_awake (L := L) h143 hG0 hS) (fun v ac w hR hA => ?_) rfl rfl rfl rfl rfl
 obtain ⟨Z144, wz145, rfl, h146, hS⟩ := hR
 have h147 := Imm.sub ha0 h146
 refine x_v hA (r_not rfl (hA.ev rfl)) rfl fun ac hA => ?_
 refine x_m hA rfl fun ac hA => ?_
 refine bcase (b := !y142) (fun hb148 => ?_) fun hb148 => ?_
 ·replace hF := ift hb148 hF
  refine x_off hb148 hA (fun ac hA => ?_) rfl rfl rfl rfl rfl
  refine x_off hb148 hA (fun ac hA => ?_) rfl rfl rfl rfl rfl
  refine x_off hb148 hA (fun ac hA => ?_) rfl rfl rfl rfl rfl
  refine x_pickt hb148 hA (fun ac hA => ?_) rfl rfl rfl rfl rfl rfl
  refine wpList_nil ?_
  exact hj1 true hF Z144 wz145 h146 h147 ac w (hA.sub _ rfl) hS
 replace hF := iff' hb148 hF
 refine x_on hb148 hA ?_ rfl rfl rfl
 refine x_m hA rfl fun ac hA => ?_
 refine x_on hb148 hA ?_ rfl rfl rfl
 refine x_len Tryd.underlying22 (hS.imm 0 h147 rfl).2.1 hA (fun ac hA => ?_) rfl rfl rfl rfl rfl
 refine x_on hb148 hA ?_ rfl rfl rfl
 refine x_v hA (r_gtI rfl (hA.ev rfl) (hA.ev rfl)) rfl fun ac hA => ?_
 refine x_pickf hb148 hA (fun ac hA => ?_) rfl rfl rfl rfl rfl rfl
 refine wpList_nil ?_
 exact hj1 (decide (200 < (a0.length : Int))) hF Z144 wz145 h146 h147 ac w (hA.sub _ rfl) hS
end Go.Proofs.YteodeedejjcmgaaDoor.M
namespace Go.Proofs.YteodeedejjcmgaaDoor.segmentWrites
open Go Go.RowKit Go.ChangeShapes Go.WideShapes Go.ChangeAt Go.Proofs.YteodeedejjcmgaaDoor.E Go.Proofs.YteodeedejjcmgaaDoor.M
set_option linter.unusedVariables false
theorem own : ownKnob Tryd.prog.godebug = none := by kernel_rfl
theorem laidOut : laidOutB Tryd.prog = true := by kernel_rfl
theorem gN : Tryd.prog.globalNamed "headrace/page.table" = some 0 := by kernel_rfl
theorem gT : (Tryd.prog.globals[0]?).map (·.type) = some 130 := by kernel_rfl
theorem door_met (os : Os) (args : Array Value) : laidMetH Tryd.prog Rows.segmentWritesRow.laid ((World.doorLaid Tryd.prog 400 os).forCall (fun _ _ => 0) ⟨#[], args, []⟩).memory :=
  laidMetH_of_parts3 (fuel := 8) (laidMet_of_run' 8 (by kernel_rfl) (by kernel_rfl)) (by kernel_rfl) (by kernel_rfl)
theorem of_laid {W : World} (h : laidMetH Tryd.prog Rows.segmentWritesRow.laid W) : Imm (HeapZ W) W (kI .u32) (some ⟨0, 0, none⟩) 16 16 M.gl_page_table := by
  rw [MakeChecks.laidMetH_plain _ _ _ (by kernel_rfl)] at h
  exact tab_imm gN gT Tryd.underlying130 Tryd.underlying48 ce48 rfl (by decide) h
def Pure : Prop := ∀ (a0 : (List M.S44)) (a1 : Int), (gL 48 M.g44) a0 → (gI .i64) a1 → M.law07_SegmentWrites a0 a1 = some true
set_option maxRecDepth 100000 in
theorem lifted (hP : Pure) (os : Os) (started : os.Started) (H : Type) (enc : TypeId × Value → H) :
    ReturnsInHanded {} Tryd.checked os 3 .any (fun w args => (Rows.segmentWritesSpec.pre enc Tryd.prog Tryd.f3 [] false w args ∧ laidMetH Tryd.prog Rows.segmentWritesRow.laid w) ∧ sizedMet enc Tryd.prog Tryd.f3 (OpenSpec.ofChange Rows.segmentWritesSpec) false w args)
      (Rows.segmentWritesSpec.post enc Tryd.prog Tryd.f3 false true false false) := by
  refine returnsInHanded_of_change_and (C := Tryd.checked) (X := fun w _ => laidMetH Tryd.prog Rows.segmentWritesRow.laid w) (fun _ _ _ hh h => h.of_heap hh) own started (by kernel_rfl) Tryd.func3
    (ChangeSpec.witness_shaped (enc := enc) (C := Tryd.checked) (os := os) (X := fun w _ => laidMetH Tryd.prog Rows.segmentWritesRow.laid w) false (World.doorLaid Tryd.prog 400 os) #[.slice none 0 0, .int .i64 0] 8 rfl (World.shaped_of_RefB (by kernel_rfl) (by kernel_rfl)) (by kernel_rfl) (by kernel_rfl) (by kernel_rfl) (door_met os _)) ?_
  intro W base args ds gs before hval0 hW hcnd hsz0 hL _
  have hsz : (DataW.weightsEach Tryd.prog (Tryd.f3.params.toList ++ Rows.segmentWritesSpec.plain.varTypes Tryd.prog) (ds ++ gs)).all (· ≤ reachBytes) = true := hsz0
  have hval : ∀ (j : Nat) t v, Tryd.f3.params[j]? = some t → args[j]? = some v → Value.okWide Tryd.prog W .any base t v := hval0
  have hW' := hW
  obtain ⟨p, q, hA0, hV, rfl, hfz, hnd⟩ := hW
  have hA : DataW.TrodAll enc Tryd.prog W 0 (fun _ => true) true Tryd.f3.params.toList args.toList ds p := hA0
  rw [Tryd.params3] at hA hval hsz
  obtain ⟨v0, vs0, d0, ds0, p0, q0, hargs, rfl, rfl, h0, r0⟩ := trodAll_cons hA
  obtain ⟨v1, vs1, d1, ds1, p1, q1, rfl, rfl, rfl, h1, r1⟩ := trodAll_cons r0
  obtain ⟨rfl, rfl, rfl⟩ := trodAll_nil r1
  obtain rfl : args = #[v0, v1] := by cases args; simp_all
  obtain ⟨rfl, rfl⟩ := trodVars_none hV
  have k0 := h0
  have lt0 : ∀ x ∈ p0, x.block < W.heap.size := by obtain ⟨m, hm⟩ := k0; exact DataW.trod_lt m _ _ _ hm
  obtain ⟨x0, hx0, g0⟩ := Opens.arg (opSl Tryd.underlying22 ce44 (Nat.succ_pos _) by44 op44) h0 (Wt.of hsz (j := 0) rfl rfl)
  obtain ⟨A0, n0, c0, rfl⟩ := okWide_slice Tryd.underlying22 (hval 0 22 v0 rfl rfl)
  obtain ⟨A0', n0', c0', he0, i0⟩ := hx0
  cases (show [Value.slice A0 n0 c0] = [Value.slice A0' n0' c0'] from he0)
  have k1 := h1
  have lt1 : ∀ x ∈ p1, x.block < W.heap.size := by obtain ⟨m, hm⟩ := k1; exact DataW.trod_lt m _ _ _ hm
  obtain ⟨x1, hx1, g1⟩ := Opens.arg (opI Tryd.underlying3) h1 (Wt.of hsz (j := 1) rfl rfl)
  obtain ⟨u1, rfl⟩ := okWide_int Tryd.underlying3 (hval 1 3 v1 rfl rfl)
  cases (show [Value.int .i64 u1] = [Value.int .i64 x1] from hx1)
  clear hA0 hval0 hsz0 hsz
  refine Calls.mono (M.F_law07_SegmentWrites (Z := HeapZ W) (wz := W) x0 x1 A0 n0 c0 (hP x0 x1 g0 g1) i0 (of_laid hL) (L := []) (SH.start W)) ?_
  rintro e W' ⟨v, rfl, Z', wz', rfl, hs, hS⟩
  have bel := SH.below hS hs
  exact ⟨_, rfl, _, _, _, [], _, [], hW', trodAll_mk1 (shut_bool Tryd.underlying4 _), (trodAll_cons_mk (Below.trod laidOut (by kernel_rfl) (of_decide_eq_true (by kernel_rfl)) k0 bel lt0) (trodAll_cons_mk (Below.trod laidOut (by kernel_rfl) (of_decide_eq_true (by kernel_rfl)) k1 bel lt1) trodAll_mk0)), rfl, bel.frame _, fun h => by cases h⟩
theorem over (hP : Pure) : Rows.segmentWritesRow.holds Tryd.pinned (OpenSpec.ofChange Rows.segmentWritesSpec) :=
  OpenClaim.holds_of_wide 3 Tryd.f3 rfl rfl rfl rfl rfl rfl rfl ⟨rfl, rfl, rfl, rfl, rfl⟩ rfl rfl rfl rfl rfl (by kernel_rfl) Tryd.func3 (by kernel_rfl)
    (of_decide_eq_true (by kernel_rfl)) (by unfold Func.isWrapper; first | (rw [if_pos (by decide +kernel)]; kernel_rfl) | (rw [if_neg (by decide +kernel)]; exact ⟨rfl, rfl⟩))
    (fun os started H enc _ => lifted hP os started H enc)
def hrn : Bool × String := Rows.segmentWritesCard.stood.harness
theorem card (hP : Pure) : Rows.SegmentWritesCardSaid :=
  Claim7.holds_tied_plain_at .later [] [.data] true hrn true
    (over hP) (fun _ h => by cases h) (by kernel_rfl) (fun _ h => by cases h) segmentWrites_row_tie rfl ⟨rfl, rfl⟩ (by kernel_rfl) rfl
    (fun f fn hf hfn => by
      obtain rfl : f = 3 := Option.some.inj ((show Tryd.prog.funcNamed "headrace/headracelaw07.SegmentWrites" = some 3 by kernel_rfl).symm.trans hf) |>.symm
      obtain rfl : fn = Tryd.f3 := (Option.some.inj (Tryd.func3.symm.trans hfn)).symm
      exact ⟨by kernel_rfl, fun j t ht => by
        rw [Tryd.params3] at ht
        have hm : t ∈ [22, 3] := by simpa using Array.mem_of_getElem? ht
        have hall : ([22, 3].all fun u => !Tryd.prog.wantsStandIn u) = true := by kernel_rfl
        exact (show Tryd.prog.wantsStandIn t = false by simpa using List.all_eq_true.1 hall t hm)⟩)
    (by kernel_rfl)
end Go.Proofs.YteodeedejjcmgaaDoor.segmentWrites
namespace Go.Proofs.YteodeedejjcmgaaDoor.P
open Go Go.RowKit Go.Proofs.YteodeedejjcmgaaDoor.E Go.Proofs.YteodeedejjcmgaaDoor.M
set_option linter.unusedVariables false
set_option linter.unusedSectionVars false
theorem at_nat {α : Type} (xs : List α) (n : Nat) : at_ xs (n : Int) = xs[n]? := by simp [at_]
theorem at_int {α : Type} {xs : List α} {i : Int} {n : Nat} {x : α} (hi : i = n) (h : xs[n]? = some x) : at_ xs i = some x := by subst hi; rw [at_nat, h]
theorem cut_nat {α : Type} {xs : List α} {l u : Nat} (h : l ≤ u) (hu : u ≤ xs.length) : cut_ xs (l : Int) (u : Int) = some ((xs.take u).drop l) := by
  unfold cut_; rw [if_pos (by omega)]; simp
theorem chk_pos {α : Type} {p : Prop} [Decidable p] {x : Option α} (h : p) : chk p x = x := if_pos h
theorem w64 {n : Int} (h : -9223372036854775808 ≤ n) (h' : n ≤ 9223372036854775807) : IntKind.i64.wrap n = n := IntWalk.i64_in n ⟨h, h'⟩
theorem u64w {n : Int} (h : 0 ≤ n) (h' : n < 18446744073709551616) : IntKind.u64.wrap n = n := IntWalk.u64_in n ⟨h, by omega⟩
theorem u8w {n : Int} (h : 0 ≤ n) (h' : n < 256) : IntKind.u8.wrap n = n := IntWalk.u8_in n ⟨h, by omega⟩
theorem lt_ {α β : Type} (e : α) (f : α → Option β) : ltt e f = f e := rfl
theorem loop_at {σ τ : Type} {b : σ → Option (σ ⊕ τ)} (f : Nat → σ) {t : τ} : ∀ (n : Nat) (i : Nat), (∀ k, i ≤ k → k < i + n → b (f k) = some (.inl (f (k + 1)))) → b (f (i + n)) = some (.inr t) → loop b (f i) = some t
  | 0, i, _, he => loop_end he
  | n + 1, i, hs, he => (loop_nxt (hs i (Nat.le_refl _) (by omega))).trans (loop_at f n (i + 1) (fun k h1 h2 => hs k (by omega) (by omega)) (by rw [show i + 1 + n = i + (n + 1) by omega]; exact he))
theorem loop_to {σ τ : Type} {b : σ → Option (σ ⊕ τ)} (f : Nat → σ) {t : τ} (n : Nat) (hs : ∀ k, k < n → b (f k) = some (.inl (f (k + 1)))) (he : b (f n) = some (.inr t)) : loop b (f 0) = some t :=
  loop_at f n 0 (fun k _ h => hs k (by omega)) (by simpa using he)
theorem ofInt_nat (n a : Nat) : BitVec.ofInt n (a : Int) = BitVec.ofNat n a := BitVec.ofInt_natCast n a
theorem u64_nat (a : Nat) : IntKind.u64.wrap (a : Int) = ((a % 18446744073709551616 : Nat) : Int) := by
  rw [IntKind.wrap_u64]; omega
theorem u8_nat (a : Nat) : IntKind.u8.wrap (a : Int) = ((a % 256 : Nat) : Int) := by rw [IntKind.wrap_u8]; omega
theorem iand_u64 {a b : Nat} (ha : a < 18446744073709551616) (hb : b < 18446744073709551616) : iand .u64 (a : Int) (b : Int) = ((a &&& b : Nat) : Int) := by
  unfold iand
  rw [ofInt_nat, ofInt_nat, u64_nat]
  have h : a &&& b < 18446744073709551616 := Nat.lt_of_le_of_lt Nat.and_le_left ha
  simp only [BitVec.toNat_and, BitVec.toNat_ofNat, show IntKind.u64.bits = 64 from rfl]
  rw [Nat.mod_eq_of_lt (show a < 2 ^ 64 by omega), Nat.mod_eq_of_lt (show b < 2 ^ 64 by omega), Nat.mod_eq_of_lt h]
theorem iand_u8 {a b : Nat} (ha : a < 256) (hb : b < 256) : iand .u8 (a : Int) (b : Int) = ((a &&& b : Nat) : Int) := by
  unfold iand
  rw [ofInt_nat, ofInt_nat, u8_nat]
  have h : a &&& b < 256 := Nat.lt_of_le_of_lt Nat.and_le_left ha
  simp only [BitVec.toNat_and, BitVec.toNat_ofNat, show IntKind.u8.bits = 8 from rfl]
  rw [Nat.mod_eq_of_lt (show a < 2 ^ 8 by omega), Nat.mod_eq_of_lt (show b < 2 ^ 8 by omega), Nat.mod_eq_of_lt h]
theorem ior_u64 {a b : Nat} (ha : a < 18446744073709551616) (hb : b < 18446744073709551616) : ior .u64 (a : Int) (b : Int) = ((a ||| b : Nat) : Int) := by
  unfold ior
  rw [ofInt_nat, ofInt_nat, u64_nat]
  have h : a ||| b < 2 ^ 64 := Nat.or_lt_two_pow (show a < 2 ^ 64 by omega) (show b < 2 ^ 64 by omega)
  simp only [BitVec.toNat_or, BitVec.toNat_ofNat, show IntKind.u64.bits = 64 from rfl]
  rw [Nat.mod_eq_of_lt (show a < 2 ^ 64 by omega), Nat.mod_eq_of_lt (show b < 2 ^ 64 by omega), Nat.mod_eq_of_lt (show a ||| b < 18446744073709551616 from h)]
theorem ior_u8 {a b : Nat} (ha : a < 256) (hb : b < 256) : ior .u8 (a : Int) (b : Int) = ((a ||| b : Nat) : Int) := by
  unfold ior
  rw [ofInt_nat, ofInt_nat, u8_nat]
  have h : a ||| b < 2 ^ 8 := Nat.or_lt_two_pow (show a < 2 ^ 8 by omega) (show b < 2 ^ 8 by omega)
  simp only [BitVec.toNat_or, BitVec.toNat_ofNat, show IntKind.u8.bits = 8 from rfl]
  rw [Nat.mod_eq_of_lt (show a < 2 ^ 8 by omega), Nat.mod_eq_of_lt (show b < 2 ^ 8 by omega), Nat.mod_eq_of_lt (show a ||| b < 256 from h)]
theorem ixor_u64 {a b : Nat} (ha : a < 18446744073709551616) (hb : b < 18446744073709551616) : ixor .u64 (a : Int) (b : Int) = ((a ^^^ b : Nat) : Int) := by
  unfold ixor
  rw [ofInt_nat, ofInt_nat, u64_nat]
  have h : a ^^^ b < 2 ^ 64 := Nat.xor_lt_two_pow (show a < 2 ^ 64 by omega) (show b < 2 ^ 64 by omega)
  simp only [BitVec.toNat_xor, BitVec.toNat_ofNat, show IntKind.u64.bits = 64 from rfl]
  rw [Nat.mod_eq_of_lt (show a < 2 ^ 64 by omega), Nat.mod_eq_of_lt (show b < 2 ^ 64 by omega), Nat.mod_eq_of_lt (show a ^^^ b < 18446744073709551616 from h)]
theorem two_pow (n : Nat) : (2 : Int) ^ n = ((2 ^ n : Nat) : Int) := (Int.natCast_pow 2 n).symm
theorem ishr_nat {k : IntKind} (a n : Nat) (h : n ≤ k.bits) : ishr k (a : Int) (n : Int) = ((a / 2 ^ n : Nat) : Int) := by
  unfold ishr
  rw [Int.toNat_natCast, Nat.min_eq_left h, two_pow, Int.fdiv_eq_ediv_of_nonneg _ (Int.natCast_nonneg _)]
  rfl
theorem ishl_u64 (a n : Nat) (h : n ≤ 64) : ishl .u64 (a : Int) (n : Int) = ((a * 2 ^ n % 18446744073709551616 : Nat) : Int) := by
  unfold ishl
  rw [Int.toNat_natCast, show min n IntKind.u64.bits = n from Nat.min_eq_left h, two_pow, ← Int.natCast_mul, u64_nat]
theorem ishl_u8 (a n : Nat) (h : n ≤ 8) : ishl .u8 (a : Int) (n : Int) = ((a * 2 ^ n % 256 : Nat) : Int) := by
  unfold ishl
  rw [Int.toNat_natCast, show min n IntKind.u8.bits = n from Nat.min_eq_left h, two_pow, ← Int.natCast_mul, u8_nat]
theorem or_top {a n : Nat} (h : a < 2 ^ n) (b : Nat) : a ||| (b * 2 ^ n) = a + b * 2 ^ n := by
  rw [Nat.or_comm, Nat.mul_comm, ← Nat.two_pow_add_eq_or_of_lt h, Nat.add_comm]
end Go.Proofs.YteodeedejjcmgaaDoor.P
namespace Go.Proofs.YteodeedejjcmgaaDoor.P
open Go Go.RowKit Go.Proofs.YteodeedejjcmgaaDoor.E Go.Proofs.YteodeedejjcmgaaDoor.M
set_option linter.unusedVariables false
set_option linter.unusedSectionVars false
def uv (n : Nat) : List Int := if h : n < 128 then [(n : Int)] else ((n % 128 + 128 : Nat) : Int) :: uv (n / 128)
termination_by n
decreasing_by omega
theorem uv_small {n : Nat} (h : n < 128) : uv n = [(n : Int)] := by rw [uv, dif_pos h]
theorem uv_large {n : Nat} (h : ¬ n < 128) : uv n = ((n % 128 + 128 : Nat) : Int) :: uv (n / 128) := by rw [uv, dif_neg h]
theorem uv_length : ∀ (k n : Nat), n < 128 ^ (k + 1) → (uv n).length ≤ k + 1
  | 0, n, h => by rw [uv_small (by simpa using h)]; simp
  | k + 1, n, h => by
    by_cases hn : n < 128
    · rw [uv_small hn]; simp
    · rw [uv_large hn, List.length_cons]
      have := uv_length k (n / 128) (by rw [Nat.pow_succ] at h; exact Nat.div_lt_of_lt_mul (by rw [Nat.mul_comm]; exact h))
      omega
theorem uv_length64 {n : Nat} (h : n < 18446744073709551616) : (uv n).length ≤ 10 := uv_length 9 n (by omega)
set_option maxRecDepth 100000 in
theorem or_128 : ∀ m : Fin 256, (m.val ||| 128) = m.val % 128 + 128 := by decide
theorem Uint_app (n : Nat) : ∀ (a0 : List Int), n < 18446744073709551616 → a0.length + (uv n).length ≤ 140737488355328 → column_Uint a0 (n : Int) = some (a0 ++ uv n) := by
  induction n using Nat.strongRecOn with
  | _ n ih =>
    intro a0 h hl
    unfold column_Uint
    by_cases hn : n < 128
    · rw [loop_end (t := (a0, (n : Int))) (by
        show column_Uint_l1 a0 (n : Int) = _
        unfold column_Uint_l1
        rw [if_neg (by simp only [decide_eq_true_eq]; omega)])]
      simp only [Option.bind_some]
      unfold column_Uint_x1_0 column_Uint_b1
      rw [uv_small hn] at hl ⊢
      rw [lt_, u8w (by omega) (by omega), chk_pos (by simpa using hl)]
    · have hl' := hl
      rw [uv_large hn, List.length_cons] at hl'
      have e1 : IntKind.u8.wrap (n : Int) = ((n % 256 : Nat) : Int) := u8_nat n
      have e2 : ior .u8 ((n % 256 : Nat) : Int) 128 = ((n % 128 + 128 : Nat) : Int) := by
        have := ior_u8 (a := n % 256) (b := 128) (by omega) (by omega)
        rw [show ((128 : Nat) : Int) = 128 from rfl] at this
        rw [this, or_128 ⟨n % 256, by omega⟩]
        simp only
        omega
      have e3 : ishr .u64 (n : Int) 7 = ((n / 128 : Nat) : Int) := ishr_nat (k := .u64) n 7 (by decide)
      rw [loop_nxt (s' := (a0 ++ [((n % 128 + 128 : Nat) : Int)], ((n / 128 : Nat) : Int))) (by
        show column_Uint_l1 a0 (n : Int) = _
        unfold column_Uint_l1
        rw [if_pos (by simp only [decide_eq_true_eq]; omega), lt_, e1, lt_, e2, chk_pos (by simp; omega), lt_, e3])]
      have := ih (n / 128) (by omega) (a0 ++ [((n % 128 + 128 : Nat) : Int)]) (by omega) (by simp; omega)
      unfold column_Uint at this
      rw [this, uv_large hn]
      simp
theorem rUint_k : ∀ (k n : Nat), n < 128 ^ (k + 1) → n < 18446744073709551616 → r03_Uint_k (k + 1) (n : Int) = some (uv n)
  | k, n, h, h64 => by
    show r03_Uint_s (r03_Uint_k k) (n : Int) = _
    unfold r03_Uint_s
    by_cases hn : n < 128
    · rw [if_pos (by simp only [decide_eq_true_eq]; omega), lt_, u8w (by omega) (by omega), uv_small hn]
    · rw [if_neg (by simp only [decide_eq_true_eq]; omega)]
      match k, h with
      | 0, h => exact absurd (by simpa using h) hn
      | k + 1, h =>
        have e1 : IntKind.u64.wrap ((n : Int).tmod 128 + 128) = ((n % 128 + 128 : Nat) : Int) := by
          rw [show (n : Int).tmod 128 + 128 = ((n % 128 + 128 : Nat) : Int) from rfl, u64w (by omega) (by omega)]
        have e2 : IntKind.u64.wrap ((n : Int).tdiv 128) = ((n / 128 : Nat) : Int) := by
          rw [show (n : Int).tdiv 128 = ((n / 128 : Nat) : Int) from rfl, u64w (by omega) (by omega)]
        rw [lt_, e1, lt_, u8w (by omega) (by omega), lt_, e2, rUint_k k (n / 128) (by rw [Nat.pow_succ] at h; exact Nat.div_lt_of_lt_mul (by rw [Nat.mul_comm]; exact h)) (by omega)]
        simp only [Option.bind_some]
        have := uv_length64 (n := n / 128) (by omega)
        rw [chk_pos (by simp; omega), uv_large hn]
        rfl
theorem rUint_eq (n : Nat) (h : n < 18446744073709551616) : r03_Uint (n : Int) = some (uv n) := rUint_k 11 n (by omega) h
def zz (i : Int) : Nat := if i < 0 then (-(i + 1)).toNat * 2 + 1 else i.toNat * 2
def uz (n : Nat) : Int := if n % 2 = 1 then -((n / 2 : Nat) : Int) - 1 else ((n / 2 : Nat) : Int)
theorem uz_zz (i : Int) : uz (zz i) = i := by unfold uz zz; split <;> split <;> omega
def i64 (i : Int) : Prop := -9223372036854775808 ≤ i ∧ i ≤ 9223372036854775807
theorem zz_lt {i : Int} (h : i64 i) : zz i < 18446744073709551616 := by
  unfold i64 at h
  unfold zz; split <;> omega
theorem i64_wrap (x : Int) : i64 (IntKind.i64.wrap x) := by
  rw [IntWalk.i64_left]; unfold wrap64 i64; omega
theorem xor_ones {a : Nat} (h : a < 18446744073709551616) : ixor .u64 (a : Int) 18446744073709551615 = ((18446744073709551615 - a : Nat) : Int) := by
  show IntKind.u64.wrap (((BitVec.ofInt 64 (a : Int) ^^^ BitVec.allOnes 64).toNat : Nat) : Int) = _
  rw [ofInt_nat, BitVec.xor_allOnes, u64_nat, BitVec.toNat_not, BitVec.toNat_ofNat, Nat.mod_eq_of_lt (show a < 2 ^ 64 by omega)]
  omega
theorem zz_eq {i : Int} (h : i64 i) : ixor .u64 (IntKind.u64.wrap (ishl .i64 i 1)) (IntKind.u64.wrap (ishr .i64 i 63)) = (zz i : Int) := by
  unfold i64 at h
  have e1 : ishl .i64 i 1 = IntKind.i64.wrap (i * 2) := rfl
  have e2 : ishr .i64 i 63 = if i < 0 then -1 else 0 := by
    unfold ishr
    rw [show (63 : Int).toNat = 63 from rfl, show min 63 IntKind.i64.bits = 63 from rfl, Int.fdiv_eq_ediv_of_nonneg _ (by decide)]
    split <;> omega
  rw [e1, e2]
  have e3 : IntKind.u64.wrap (IntKind.i64.wrap (i * 2)) = (i * 2) % 18446744073709551616 := by
    rw [IntKind.wrap_u64, IntWalk.i64_left]; unfold wrap64; omega
  rw [e3]
  unfold zz
  by_cases hi : i < 0
  · rw [if_pos hi, if_pos hi, show IntKind.u64.wrap (-1) = 18446744073709551615 from rfl]
    obtain ⟨m, hm⟩ : ∃ m : Nat, (i * 2) % 18446744073709551616 = (m : Int) := ⟨((i * 2) % 18446744073709551616).toNat, by omega⟩
    rw [hm, xor_ones (by omega)]
    omega
  · rw [if_neg hi, if_neg hi, show IntKind.u64.wrap 0 = ((0 : Nat) : Int) from rfl]
    obtain ⟨m, hm⟩ : ∃ m : Nat, (i * 2) % 18446744073709551616 = (m : Int) := ⟨((i * 2) % 18446744073709551616).toNat, by omega⟩
    rw [hm, ixor_u64 (by omega) (by omega), Nat.xor_zero]
    omega
theorem Int_app {i : Int} (h : i64 i) (a0 : List Int) (hl : a0.length + 10 ≤ 140737488355328) : column_Int a0 i = some (a0 ++ uv (zz i)) := by
  unfold column_Int
  have := uv_length64 (zz_lt h)
  simp only [lt_, zz_eq h, Uint_app _ a0 (zz_lt h) (by omega), Option.bind_some]
theorem rInt_eq {i : Int} (h : i64 i) : r03_Int i = some (uv (zz i)) := by
  have h' := h
  unfold i64 at h'
  unfold r03_Int
  by_cases hi : i < 0
  · rw [if_pos (by simpa using hi)]
    simp only [lt_]
    rw [w64 (n := i + 1) (by omega) (by omega), w64 (n := 0 - (i + 1)) (by omega) (by omega), u64w (n := 0 - (i + 1)) (by omega) (by omega), u64w (n := (0 - (i + 1)) * 2) (by omega) (by omega), u64w (by omega) (by omega),
      show (0 - (i + 1)) * 2 + 1 = (zz i : Int) by unfold zz; rw [if_pos hi]; omega, rUint_eq _ (zz_lt h)]
    rfl
  · rw [if_neg (by simpa using hi)]
    simp only [lt_]
    rw [u64w (n := i) (by omega) (by omega), u64w (by omega) (by omega), show i * 2 = (zz i : Int) by unfold zz; rw [if_neg hi]; omega, rUint_eq _ (zz_lt h)]
    rfl
theorem Text_app (s : List UInt8) (a0 : List Int) (hs : s.length ≤ 9223372036854775807) (hl : a0.length + s.length + 10 ≤ 140737488355328) : column_Text a0 s = some (a0 ++ uv s.length ++ stb s) := by
  unfold column_Text
  have := uv_length64 (n := s.length) (by omega)
  rw [lt_, u64w (by omega) (by omega), Uint_app _ a0 (by omega) (by omega)]
  simp only [Option.bind_some]
  rw [chk_pos (by simp; omega)]
theorem rText_eq (s : List UInt8) (hl : s.length + 10 ≤ 140737488355328) : r03_Text s = some (uv s.length ++ stb s) := by
  unfold r03_Text
  have := uv_length64 (n := s.length) (by omega)
  have hst : (stb s).length = s.length := by simp [stb]
  rw [lt_, u64w (by omega) (by omega), rUint_eq _ (by omega)]
  simp only [Option.bind_some]
  rw [chk_pos (by simp only [maxLen]; omega), chk_pos (by omega)]
def Bs (xs : List Int) : Prop := ∀ b ∈ xs, 0 ≤ b ∧ b < 256
theorem Bs.nil : Bs [] := fun _ h => by cases h
theorem Bs.cons {b : Int} {xs : List Int} (h : Bs (b :: xs)) : (0 ≤ b ∧ b < 256) ∧ Bs xs := ⟨h b List.mem_cons_self, fun c hc => h c (List.mem_cons_of_mem _ hc)⟩
theorem Bs.mk {b : Int} {xs : List Int} (hb : 0 ≤ b ∧ b < 256) (h : Bs xs) : Bs (b :: xs) := fun c hc => by
  rcases List.mem_cons.1 hc with rfl | hc
  · exact hb
  · exact h c hc
theorem Bs.app {xs ys : List Int} (h : Bs xs) (h' : Bs ys) : Bs (xs ++ ys) := fun c hc => (List.mem_append.1 hc).elim (h c) (h' c)
theorem Bs.l {xs ys : List Int} (h : Bs (xs ++ ys)) : Bs xs := fun c hc => h c (List.mem_append.2 (.inl hc))
theorem Bs.r {xs ys : List Int} (h : Bs (xs ++ ys)) : Bs ys := fun c hc => h c (List.mem_append.2 (.inr hc))
theorem Bs.drop {xs : List Int} (h : Bs xs) (n : Nat) : Bs (xs.drop n) := fun c hc => h c (List.mem_of_mem_drop hc)
theorem Bs.take {xs : List Int} (h : Bs xs) (n : Nat) : Bs (xs.take n) := fun c hc => h c (List.mem_of_mem_take hc)
theorem Bs.uv (n : Nat) : Bs (uv n) := by
  induction n using Nat.strongRecOn with
  | _ n ih =>
    by_cases hn : n < 128
    · rw [uv_small hn]; exact Bs.mk (by omega) Bs.nil
    · rw [uv_large hn]; exact Bs.mk (by omega) (ih _ (by omega))
theorem Bs.stb (s : List UInt8) : Bs (stb s) := by
  intro c hc
  unfold E.stb at hc
  obtain ⟨b, _, rfl⟩ := List.mem_map.1 hc
  have := b.toNat_lt
  omega
end Go.Proofs.YteodeedejjcmgaaDoor.P
namespace Go.Proofs.YteodeedejjcmgaaDoor.P
open Go Go.RowKit Go.Proofs.YteodeedejjcmgaaDoor.E Go.Proofs.YteodeedejjcmgaaDoor.M
set_option linter.unusedVariables false
set_option linter.unusedSectionVars false
def pB : List Int → Option (Int × List Int)
  | [] => none
  | b :: r => some (b, r)
def pV (i n : Nat) : List Int → Option (Nat × List Int)
  | [] => none
  | b :: r => if i < 9 ∨ (i = 9 ∧ b < 2) then
      (if b < 128 then (if i = 0 ∨ 0 < b then some (n + b.toNat % 128 * 2 ^ (7 * i), r) else none) else pV (i + 1) (n + b.toNat % 128 * 2 ^ (7 * i)) r)
    else none
def pU (most : Int) (xs : List Int) : Option (Int × List Int) := match pV 0 0 xs with
  | some (n, r) => if (n : Int) ≤ most then some ((n : Int), r) else none
  | none => none
def pI (xs : List Int) : Option (Int × List Int) := match pU 18446744073709551615 xs with
  | some (n, r) => some (uz n.toNat, r)
  | none => none
def pT (most : Int) (xs : List Int) : Option (List UInt8 × List Int) := match pU (IntKind.u64.wrap most) xs with
  | some (n, r) => if n ≤ (r.length : Int) then some (bts (r.take n.toNat), r.drop n.toNat) else none
  | none => none
def IsR {ρ : Type} (o : Option ((ρ × S106) ⊕ S106)) (p : Option (ρ × List Int)) : Prop :=
  match p with
  | some (a, r) => o = some (.inl (a, ⟨r⟩))
  | none => ∃ s, o = some (.inr s)
theorem IsR.cases {ρ : Type} {o : Option ((ρ × S106) ⊕ S106)} {p : Option (ρ × List Int)} (h : IsR o p) : (∃ a r, p = some (a, r) ∧ o = some (.inl (a, ⟨r⟩))) ∨ (p = none ∧ ∃ s, o = some (.inr s)) := by
  unfold IsR at h
  split at h
  · exact .inl ⟨_, _, rfl, h⟩
  · exact .inr ⟨rfl, h⟩
theorem s_inl {α β γ : Type} (a : α) (f : α → Option γ) (g : β → Option γ) : sum_ (.inl a) f g = f a := rfl
theorem Check_t (s : S106) : column_Reader_Check s true = some (.inl s) := rfl
theorem Check_f (s : S106) : column_Reader_Check s false = some (.inr s) := rfl
theorem Byte_is (xs : List Int) : IsR (column_Reader_Byte ⟨xs⟩) (pB xs) := by
  unfold column_Reader_Byte
  cases xs with
  | nil => exact ⟨_, rfl⟩
  | cons b r =>
    rw [show decide (0 < (((⟨b :: r⟩ : S106).f0.length : Nat) : Int)) = true by simp, Check_t]
    simp only [Option.bind_some, s_inl]
    have h1 : at_ (b :: r) 0 = some b := rfl
    have h2 : cut_ (b :: r) 1 ((b :: r).length : Int) = some r := by
      have := cut_nat (xs := b :: r) (l := 1) (u := (b :: r).length) (by simp) (Nat.le_refl _)
      rw [show ((1 : Nat) : Int) = 1 from rfl, List.take_length] at this
      exact this
    rw [h1]
    simp only [Option.bind_some]
    rw [h2]
    rfl
theorem and_127 (a : Nat) : a &&& 127 = a % 128 := Nat.and_two_pow_sub_one_eq_mod a 7
theorem pV_lt : ∀ (xs : List Int) (i n m : Nat) (r : List Int), n < 2 ^ (7 * i) → n < 18446744073709551616 → pV i n xs = some (m, r) → m < 18446744073709551616 ∧ ∃ p, xs = p ++ r ∧ 0 < p.length
  | [], i, n, m, r, _, _, h => by cases h
  | b :: xs, i, n, m, r, h1, h2, h => by
    unfold pV at h
    split at h
    · rename_i hc
      have hlt : n + b.toNat % 128 * 2 ^ (7 * i) < 18446744073709551616 ∧ n + b.toNat % 128 * 2 ^ (7 * i) < 2 ^ (7 * (i + 1)) := by
        have hp : 2 ^ (7 * (i + 1)) = 128 * 2 ^ (7 * i) := by rw [show 7 * (i + 1) = 7 + 7 * i by omega, Nat.pow_add]
        have hm : b.toNat % 128 * 2 ^ (7 * i) ≤ 127 * 2 ^ (7 * i) := Nat.mul_le_mul_right _ (by omega)
        refine ⟨?_, by rw [hp]; omega⟩
        rcases hc with hc | ⟨hc, hb⟩
        · have : 2 ^ (7 * i) ≤ 2 ^ 56 := Nat.pow_le_pow_right (by decide) (by omega)
          omega
        · subst hc
          have : b.toNat % 128 * 2 ^ (7 * 9) ≤ 1 * 2 ^ (7 * 9) := Nat.mul_le_mul_right _ (by omega)
          omega
      split at h
      · split at h
        · cases h
          exact ⟨hlt.1, [b], rfl, by simp⟩
        · cases h
      · obtain ⟨q1, p, rfl, q3⟩ := pV_lt xs (i + 1) _ m r hlt.2 hlt.1 h
        exact ⟨q1, b :: p, rfl, by simp⟩
    · cases h
theorem Uloop (most : Int) : ∀ (xs : List Int) (i n : Nat), Bs xs → i ≤ 10 → n < 2 ^ (7 * i) → n < 18446744073709551616 →
    IsR (loop (fun s : List Int × Int × Int => column_Reader_Uint_l1 most s.1 s.2.1 s.2.2) (xs, (n : Int), (i : Int))) (match pV i n xs with | some (m, r) => if (m : Int) ≤ most then some ((m : Int), r) else none | none => none)
  | [], i, n, hB, hi, h1, h2 => ⟨⟨[]⟩, loop_end rfl⟩
  | b :: xs, i, n, hB, hi, h1, h2 => by
    obtain ⟨hb, hB'⟩ := hB.cons
    generalize hpv : pV i n (b :: xs) = pv
    have hby : column_Reader_Byte ⟨b :: xs⟩ = some (.inl (b, ⟨xs⟩)) := Byte_is (b :: xs)
    obtain ⟨c, rfl⟩ : ∃ c : Nat, b = (c : Int) := ⟨b.toNat, by omega⟩
    have hcase : (c : Int) < 128 ∨ 128 ≤ (c : Int) := by omega
    by_cases hc : i < 9 ∨ (i = 9 ∧ (c : Int) < 2)
    · -- the byte is taken
      have hp : 2 ^ (7 * (i + 1)) = 128 * 2 ^ (7 * i) := by rw [show 7 * (i + 1) = 7 + 7 * i by omega, Nat.pow_add]
      have hm : c % 128 * 2 ^ (7 * i) ≤ 127 * 2 ^ (7 * i) := Nat.mul_le_mul_right _ (by omega)
      have hlt : c % 128 * 2 ^ (7 * i) < 18446744073709551616 ∧ n + c % 128 * 2 ^ (7 * i) < 18446744073709551616 := by
        rcases hc with hc | ⟨hc, hb⟩
        · have : 2 ^ (7 * i) ≤ 2 ^ 56 := Nat.pow_le_pow_right (by decide) (by omega)
          omega
        · subst hc
          have : c % 128 * 2 ^ (7 * 9) ≤ 1 * 2 ^ (7 * 9) := Nat.mul_le_mul_right _ (by omega)
          omega
      have hlt2 : n + c % 128 * 2 ^ (7 * i) < 2 ^ (7 * (i + 1)) := by rw [hp]; omega
      obtain ⟨m, hm'⟩ : ∃ m, m = n + c % 128 * 2 ^ (7 * i) := ⟨_, rfl⟩
      have e1 : iand .u8 (c : Int) 127 = ((c % 128 : Nat) : Int) := by
        have := iand_u8 (a := c) (b := 127) (by omega) (by omega)
        rw [show ((127 : Nat) : Int) = 127 from rfl] at this
        rw [this, and_127]
      have e2 : IntKind.i64.wrap (7 * (i : Int)) = ((7 * i : Nat) : Int) := by rw [w64 (by omega) (by omega)]; omega
      have e3 : ishl .u64 ((c % 128 : Nat) : Int) ((7 * i : Nat) : Int) = ((c % 128 * 2 ^ (7 * i) : Nat) : Int) := by
        rw [ishl_u64 _ _ (by omega), Nat.mod_eq_of_lt hlt.1]
      have e4 : ior .u64 (n : Int) ((c % 128 * 2 ^ (7 * i) : Nat) : Int) = (m : Int) := by rw [ior_u64 h2 hlt.1, or_top h1, hm']
      have hl1 : column_Reader_Uint_l1 most ((c : Int) :: xs) (n : Int) (i : Int) = column_Reader_Uint_j1 most (n : Int) (i : Int) ((c : Int), ⟨xs⟩) xs := by
        unfold column_Reader_Uint_l1
        rw [hby]
        simp only [Option.bind_some, s_inl]
        rcases hc with hc | ⟨hc, hc2⟩
        · rw [if_pos (by simp only [decide_eq_true_eq]; omega), Check_t]; rfl
        · rw [if_neg (by simp only [decide_eq_true_eq]; omega), if_pos (by subst hc; rfl), show decide ((c : Int) < 2) = true by simpa using hc2, Check_t]; rfl
      have hj : column_Reader_Uint_j1 most (n : Int) (i : Int) ((c : Int), ⟨xs⟩) xs = if (c : Int) < 128 then (if (m : Int) ≤ most ∧ (i = 0 ∨ 0 < (c : Int)) then some (.inr (.inl ((m : Int), ⟨xs⟩))) else some (.inr (.inr ⟨xs⟩))) else some (.inl (xs, (m : Int), ((i + 1 : Nat) : Int))) := by
        unfold column_Reader_Uint_j1
        simp only [lt_]
        rw [e1, u64w (by omega) (by omega), e2, chk_pos (by omega), e3, e4]
        by_cases hc1 : (c : Int) < 128
        · rw [if_pos (by simpa using hc1), if_pos hc1]
          by_cases hmo : (m : Int) ≤ most
          · rw [if_pos (by simpa using hmo)]
            by_cases hi0 : i = 0
            · subst hi0
              rw [if_pos (by rfl), Check_t, if_pos ⟨hmo, .inl rfl⟩]
              rfl
            · rw [if_neg (by simpa using hi0)]
              by_cases hc0 : 0 < (c : Int)
              · rw [show decide (0 < (c : Int)) = true by simpa using hc0, Check_t, if_pos ⟨hmo, .inr hc0⟩]; rfl
              · rw [show decide (0 < (c : Int)) = false by simpa using hc0, Check_f, if_neg (by rintro ⟨_, q | q⟩; exact hi0 q; exact hc0 q)]; rfl
          · rw [if_neg (by simpa using hmo), Check_f, if_neg (fun q => hmo q.1)]; rfl
        · rw [if_neg (by simpa using hc1), if_neg hc1, w64 (by omega) (by omega)]; rfl
      rw [pV, if_pos hc, Int.toNat_natCast, ← hm'] at hpv
      rcases hcase with hc1 | hc1
      · rw [if_pos hc1] at hj hpv
        by_cases h0 : i = 0 ∨ 0 < (c : Int)
        · rw [if_pos h0] at hpv
          subst hpv
          simp only
          by_cases hmo : (m : Int) ≤ most
          · rw [if_pos ⟨hmo, h0⟩] at hj
            rw [if_pos hmo]
            exact loop_end (hl1.trans hj)
          · rw [if_neg (fun q => hmo q.1)] at hj
            rw [if_neg hmo]
            exact ⟨_, loop_end (hl1.trans hj)⟩
        · rw [if_neg h0] at hpv
          subst hpv
          rw [if_neg (fun q => h0 q.2)] at hj
          exact ⟨_, loop_end (hl1.trans hj)⟩
      · rw [if_neg (Int.not_lt.2 hc1)] at hj hpv
        rw [loop_nxt (hl1.trans hj)]
        subst hpv
        exact Uloop most xs (i + 1) m hB' (by omega) (by rw [hm']; exact hlt2) (by rw [hm']; exact hlt.2)
    · rw [pV, if_neg hc] at hpv
      subst hpv
      refine ⟨_, loop_end (t := Sum.inr ⟨xs⟩) ?_⟩
      show column_Reader_Uint_l1 most ((c : Int) :: xs) (n : Int) (i : Int) = _
      unfold column_Reader_Uint_l1
      rw [hby]
      simp only [Option.bind_some, s_inl]
      rw [if_neg (by simp only [decide_eq_true_eq]; omega)]
      by_cases hi9 : i = 9
      · rw [if_pos (by subst hi9; rfl), show decide ((c : Int) < 2) = false by simp; omega, Check_f]; rfl
      · rw [if_neg (by simp; omega), Check_f]; rfl
theorem Uint_is (most : Int) {xs : List Int} (hB : Bs xs) : IsR (column_Reader_Uint ⟨xs⟩ most) (pU most xs) := by
  unfold column_Reader_Uint pU
  have := Uloop most xs 0 0 hB (by omega) (by simp) (by omega)
  simp only [Int.natCast_zero] at this
  rcases this.cases with ⟨a, r, h1, h2⟩ | ⟨h1, s, h2⟩
  · rw [h1]; show _ = _; rw [h2]; rfl
  · rw [h1]; exact ⟨s, by rw [h2]; rfl⟩
theorem pU_some {most : Int} {xs r : List Int} {n : Int} (h : pU most xs = some (n, r)) : (0 ≤ n ∧ n < 18446744073709551616 ∧ n ≤ most) ∧ ∃ p, xs = p ++ r ∧ 0 < p.length := by
  unfold pU at h
  split at h
  · rename_i m r' he
    split at h
    · cases h
      obtain ⟨h1, h2⟩ := pV_lt _ _ _ _ _ (by simp) (by omega) he
      exact ⟨⟨by omega, by omega, by assumption⟩, h2⟩
    · cases h
  · cases h
theorem and_1 (a : Nat) : a &&& 1 = a % 2 := Nat.and_two_pow_sub_one_eq_mod a 1
theorem xor_m1 {a : Nat} (h : a < 9223372036854775808) : ixor .i64 (a : Int) (-1) = -(a : Int) - 1 := by
  show IntKind.i64.wrap (((BitVec.ofInt 64 (a : Int) ^^^ BitVec.allOnes 64).toNat : Nat) : Int) = _
  rw [ofInt_nat, BitVec.xor_allOnes, BitVec.toNat_not, BitVec.toNat_ofNat, Nat.mod_eq_of_lt (show a < 2 ^ 64 by omega), IntWalk.i64_left]
  unfold wrap64
  omega
theorem xor_0 {a : Nat} (h : a < 9223372036854775808) : ixor .i64 (a : Int) 0 = (a : Int) := by
  show IntKind.i64.wrap (((BitVec.ofInt 64 (a : Int) ^^^ 0#64).toNat : Nat) : Int) = _
  rw [ofInt_nat, BitVec.xor_zero, BitVec.toNat_ofNat, Nat.mod_eq_of_lt (show a < 2 ^ 64 by omega), w64 (by omega) (by omega)]
theorem uz_eq {n : Nat} (h : n < 18446744073709551616) : ixor .i64 (IntKind.i64.wrap (ishr .u64 (n : Int) 1)) (IntKind.i64.wrap (0 - IntKind.i64.wrap (iand .u64 (n : Int) 1))) = uz n := by
  have e1 : ishr .u64 (n : Int) 1 = ((n / 2 : Nat) : Int) := ishr_nat (k := .u64) n 1 (by decide)
  have e2 : iand .u64 (n : Int) 1 = ((n % 2 : Nat) : Int) := by
    have := iand_u64 (a := n) (b := 1) h (by omega)
    rw [show ((1 : Nat) : Int) = 1 from rfl] at this
    rw [this, and_1]
  rw [e1, e2, w64 (n := ((n / 2 : Nat) : Int)) (by omega) (by omega), w64 (n := ((n % 2 : Nat) : Int)) (by omega) (by omega), w64 (by omega) (by omega)]
  unfold uz
  by_cases ho : n % 2 = 1
  · rw [if_pos ho, ho, show (0 : Int) - ((1 : Nat) : Int) = -1 from rfl, xor_m1 (by omega)]
  · rw [if_neg ho, show n % 2 = 0 by omega, show (0 : Int) - ((0 : Nat) : Int) = 0 from rfl, xor_0 (by omega)]
theorem Int_is {xs : List Int} (hB : Bs xs) : IsR (column_Reader_Int ⟨xs⟩) (pI xs) := by
  unfold column_Reader_Int pI
  rcases (Uint_is 18446744073709551615 hB).cases with ⟨a, r, h1, h2⟩ | ⟨h1, s, h2⟩
  · rw [h1, h2]
    obtain ⟨⟨q1, q2, _⟩, _⟩ := pU_some h1
    simp only [Option.bind_some, s_inl, lt_]
    have := uz_eq (n := a.toNat) (by omega)
    rw [show ((a.toNat : Nat) : Int) = a by omega] at this
    show _ = _
    rw [this]
  · rw [h1, h2]
    exact ⟨s, rfl⟩
theorem Text_is (most : Int) {xs : List Int} (hB : Bs xs) (hl : xs.length < 9223372036854775808) : IsR (column_Reader_Text ⟨xs⟩ most) (pT most xs) := by
  unfold column_Reader_Text pT
  rw [lt_]
  rcases (Uint_is (IntKind.u64.wrap most) hB).cases with ⟨a, r, h1, h2⟩ | ⟨h1, s, h2⟩
  · rw [h1, h2]
    obtain ⟨⟨q1, q2, _⟩, p, hp, _⟩ := pU_some h1
    have hr : r.length ≤ xs.length := by rw [hp]; simp
    simp only [Option.bind_some, s_inl, lt_]
    rw [u64w (by omega) (by omega)]
    obtain ⟨n, rfl⟩ : ∃ n : Nat, a = (n : Int) := ⟨a.toNat, by omega⟩
    by_cases hn : (n : Int) ≤ (r.length : Int)
    · rw [show decide ((n : Int) ≤ (r.length : Int)) = true by simpa using hn, Check_t, if_pos hn]
      simp only [Option.bind_some, s_inl]
      have c1 := cut_nat (xs := r) (l := 0) (u := n) (by omega) (by omega)
      have c2 := cut_nat (xs := r) (l := n) (u := r.length) (by omega) (by omega)
      rw [show ((0 : Nat) : Int) = 0 from rfl, List.drop_zero] at c1
      rw [List.take_length] at c2
      rw [c1]
      simp only [Option.bind_some]
      rw [c2]
      rfl
    · rw [show decide ((n : Int) ≤ (r.length : Int)) = false by simpa using hn, Check_f, if_neg hn]
      exact ⟨_, rfl⟩
  · rw [h1, h2]
    exact ⟨s, rfl⟩
theorem pV_uv : ∀ (k : Nat) (m i n : Nat) (r : List Int), m < 128 ^ (k + 1) → k + i ≤ 9 → m * 2 ^ (7 * i) + n < 18446744073709551616 → (0 < i → 0 < m) → pV i n (uv m ++ r) = some (n + m * 2 ^ (7 * i), r)
  | k, m, i, n, r, h, hi, hlt, h0 => by
    by_cases hm : m < 128
    · rw [uv_small hm, List.singleton_append, pV]
      have h9 : i < 9 ∨ (i = 9 ∧ (m : Int) < 2) := by
        rcases Nat.lt_or_ge i 9 with q | q
        · exact .inl q
        · have : i = 9 := by omega
          subst this
          refine .inr ⟨rfl, ?_⟩
          rcases Nat.lt_or_ge m 2 with q2 | q2
          · omega
          · have : 2 * 2 ^ (7 * 9) ≤ m * 2 ^ (7 * 9) := Nat.mul_le_mul_right _ q2
            omega
      rw [if_pos h9, if_pos (by omega), if_pos (by rcases Nat.eq_zero_or_pos i with q | q; exact .inl q; have := h0 q; exact .inr (by omega)), Int.toNat_natCast, Nat.mod_eq_of_lt hm]
    · rw [uv_large hm, List.cons_append, pV]
      match k, h, hi with
      | 0, h, _ => exact absurd (by simpa using h) hm
      | k + 1, h, hi =>
        rw [if_pos (.inl (by omega)), if_neg (by omega), Int.toNat_natCast, show (m % 128 + 128) % 128 = m % 128 by omega]
        have hp : 2 ^ (7 * (i + 1)) = 128 * 2 ^ (7 * i) := by rw [show 7 * (i + 1) = 7 + 7 * i by omega, Nat.pow_add]
        have hdiv : m / 128 * (128 * 2 ^ (7 * i)) + m % 128 * 2 ^ (7 * i) = m * 2 ^ (7 * i) := by
          rw [← Nat.mul_assoc, ← Nat.add_mul]
          congr 1
          omega
        rw [pV_uv k (m / 128) (i + 1) _ r (by rw [Nat.pow_succ] at h; exact Nat.div_lt_of_lt_mul (by rw [Nat.mul_comm]; exact h)) (by omega) (by rw [hp]; omega) (fun _ => by omega), hp]
        congr 2
        omega
theorem pU_uv {m : Nat} (h : m < 18446744073709551616) (r : List Int) {most : Int} (hm : (m : Int) ≤ most) : pU most (uv m ++ r) = some ((m : Int), r) := by
  unfold pU
  rw [pV_uv 9 m 0 0 r (by omega) (by omega) (by simp; omega) (fun q => absurd q (by omega))]
  simp only [Nat.mul_zero, Nat.pow_zero, Nat.mul_one, Nat.zero_add]
  rw [if_pos hm]
theorem pI_uv {x : Int} (h : i64 x) (r : List Int) : pI (uv (zz x) ++ r) = some (x, r) := by
  unfold pI
  have := zz_lt h
  rw [pU_uv this r (by omega)]
  simp only [Int.toNat_natCast, uz_zz]
end Go.Proofs.YteodeedejjcmgaaDoor.P
namespace Go.Proofs.YteodeedejjcmgaaDoor.P
open Go Go.RowKit Go.Proofs.YteodeedejjcmgaaDoor.E Go.Proofs.YteodeedejjcmgaaDoor.M
set_option linter.unusedVariables false
set_option linter.unusedSectionVars false
def bl (n : Nat) : Nat := if h : n = 0 then 0 else bl (n / 2) + 1
termination_by n
decreasing_by omega
theorem bl_zero : bl 0 = 0 := by rw [bl, dif_pos rfl]
theorem bl_pos {n : Nat} (h : 0 < n) : bl n = bl (n / 2) + 1 := by rw [bl, dif_neg (by omega)]
theorem bl_lt (n : Nat) : n < 2 ^ bl n := by
  induction n using Nat.strongRecOn with
  | _ n ih =>
    rcases Nat.eq_zero_or_pos n with rfl | h
    · rw [bl_zero]; decide
    · rw [bl_pos h, Nat.pow_succ]
      have := ih (n / 2) (by omega)
      omega
theorem bl_le : ∀ (k n : Nat), n < 2 ^ k → bl n ≤ k
  | 0, n, h => by have : n = 0 := by simpa using h
                  rw [this, bl_zero]; exact Nat.le_refl _
  | k + 1, n, h => by
    rcases Nat.eq_zero_or_pos n with rfl | hp
    · rw [bl_zero]; omega
    · rw [bl_pos hp]
      have := bl_le k (n / 2) (by rw [Nat.pow_succ] at h; omega)
      omega
theorem bl_shift : ∀ (k n : Nat), 2 ^ k ≤ n → bl n = k + bl (n / 2 ^ k)
  | 0, n, _ => by simp
  | k + 1, n, h => by
    have hp : 0 < 2 ^ k := Nat.two_pow_pos k
    rw [Nat.pow_succ] at h
    rw [bl_pos (by omega), bl_shift k (n / 2) (by omega), Nat.div_div_eq_div_mul, Nat.pow_succ, Nat.mul_comm (2 ^ k) 2]
    omega
def V (w : Nat) : List Nat → Nat
  | [] => 0
  | d :: ds => d + 2 ^ w * V w ds
def Lt (w : Nat) (ds : List Nat) : Prop := ∀ d ∈ ds, d < 2 ^ w
theorem Lt.tail {w d : Nat} {ds : List Nat} (h : Lt w (d :: ds)) : d < 2 ^ w ∧ Lt w ds := ⟨h d List.mem_cons_self, fun x hx => h x (List.mem_cons_of_mem _ hx)⟩
theorem V_lt {w : Nat} : ∀ {ds : List Nat}, Lt w ds → V w ds < 2 ^ (ds.length * w)
  | [], _ => by simp [V]
  | d :: ds, h => by
    have h1 := h.tail.1
    have h2 := V_lt h.tail.2
    simp only [V, List.length_cons]
    rw [Nat.add_mul, Nat.one_mul, Nat.pow_add, Nat.mul_comm (2 ^ (ds.length * w))]
    have : 2 ^ w * V w ds + 2 ^ w ≤ 2 ^ w * 2 ^ (ds.length * w) := by
      rw [← Nat.mul_succ]; exact Nat.mul_le_mul_left _ h2
    omega
theorem V_drop {w : Nat} : ∀ {ds : List Nat}, Lt w ds → ∀ i, V w ds / 2 ^ (i * w) = V w (ds.drop i)
  | ds, _, 0 => by simp
  | [], _, i + 1 => by simp [V]
  | d :: ds, h, i + 1 => by
    rw [List.drop_succ_cons, ← V_drop h.tail.2 i, Nat.add_mul, Nat.one_mul, Nat.add_comm (i * w), Nat.pow_add, ← Nat.div_div_eq_div_mul]
    congr 1
    simp only [V]
    rw [Nat.add_mul_div_left _ _ (Nat.two_pow_pos w), Nat.div_eq_of_lt h.tail.1, Nat.zero_add]
theorem V_get {w : Nat} {ds : List Nat} (h : Lt w ds) {i d : Nat} (hd : ds[i]? = some d) : V w ds / 2 ^ (i * w) % 2 ^ w = d := by
  rw [V_drop h, List.drop_eq_getElem_cons (List.getElem?_eq_some_iff.1 hd).1, (List.getElem?_eq_some_iff.1 hd).2, V, Nat.add_mul_mod_self_left]
  exact Nat.mod_eq_of_lt (h d (List.mem_of_getElem? hd))
def by_ (m v : Nat) : List Nat := (List.range m).map fun j => v / 2 ^ (8 * j) % 256
theorem by_length (m v : Nat) : (by_ m v).length = m := by simp [by_]
theorem by_get {m v j : Nat} (h : j < m) : (by_ m v)[j]? = some (v / 2 ^ (8 * j) % 256) := by
  unfold by_
  rw [List.getElem?_map, List.getElem?_range h]; rfl
theorem by_succ (m v : Nat) : by_ (m + 1) v = by_ m v ++ [v / 2 ^ (8 * m) % 256] := by
  unfold by_
  rw [List.range_succ, List.map_append]; rfl
theorem by_lt (m v : Nat) : Lt 8 (by_ m v) := by
  intro d hd
  unfold by_ at hd
  obtain ⟨j, _, rfl⟩ := List.mem_map.1 hd
  exact Nat.mod_lt _ (by decide)
theorem by_ext {xs ys : List Nat} (hl : xs.length = ys.length) (h : ∀ j : Nat, j < xs.length → xs[j]? = ys[j]?) : xs = ys := by
  apply List.ext_getElem? fun j => ?_
  rcases Nat.lt_or_ge j xs.length with hj | hj
  · exact h j hj
  · rw [List.getElem?_eq_none hj, List.getElem?_eq_none (by omega)]
def bt (v i : Nat) : Nat := v / 2 ^ i % 2
theorem bt_lt (v i : Nat) : bt v i < 2 := Nat.mod_lt _ (by decide)
theorem mod_succ (v i : Nat) : v % 2 ^ (i + 1) = v % 2 ^ i + bt v i * 2 ^ i := by
  rw [Nat.pow_succ, Nat.mod_mul, bt, Nat.mul_comm]
theorem bt_V {w : Nat} {ds : List Nat} (h : Lt w ds) {i k d : Nat} (hd : ds[i]? = some d) (hk : k < w) : bt (V w ds) (i * w + k) = bt d k := by
  unfold bt
  have hm := V_get h hd
  rw [Nat.pow_add, ← Nat.div_div_eq_div_mul]
  conv => rhs; rw [← hm]
  obtain ⟨x, hx⟩ : ∃ x, x = V w ds / 2 ^ (i * w) := ⟨_, rfl⟩
  rw [← hx]
  obtain ⟨j, rfl⟩ : ∃ j, w = k + (j + 1) := ⟨w - k - 1, by omega⟩
  rw [Nat.pow_add, Nat.mod_mul_right_div_self, Nat.pow_succ, Nat.mul_comm (2 ^ j) 2, Nat.mod_mul_right_mod]
theorem part_same (v i q w : Nat) (hw : 0 < w) (hq : q ≠ i / w) : v % 2 ^ (i + 1) / 2 ^ (q * w) % 2 ^ w = v % 2 ^ i / 2 ^ (q * w) % 2 ^ w := by
  rw [mod_succ]
  rcases Nat.lt_or_ge (i / w) q with hlt | hge
  · -- above
    have h1 : (i / w + 1) * w ≤ q * w := Nat.mul_le_mul_right _ hlt
    have h2 : i < (i / w + 1) * w := by have h := Nat.div_add_mod i w; have h' := Nat.mod_lt i hw; rw [Nat.add_mul, Nat.one_mul, Nat.mul_comm (i / w)]; omega
    have h3 : 2 ^ (i + 1) ≤ 2 ^ (q * w) := Nat.pow_le_pow_right (by decide) (by omega)
    have h4 : v % 2 ^ i < 2 ^ i := Nat.mod_lt _ (Nat.two_pow_pos i)
    have h5 := bt_lt v i
    have h6 : bt v i * 2 ^ i ≤ 1 * 2 ^ i := Nat.mul_le_mul_right _ (by omega)
    rw [Nat.pow_succ] at h3
    rw [Nat.div_eq_of_lt (by omega), Nat.div_eq_of_lt (by omega)]
  · -- below
    have hlt : q < i / w := by omega
    have h1 : (q + 1) * w ≤ i / w * w := Nat.mul_le_mul_right _ hlt
    have h2 : i / w * w ≤ i := Nat.div_mul_le_self i w
    obtain ⟨j, rfl⟩ : ∃ j, i = q * w + w + j := ⟨i - (q * w + w), by rw [Nat.add_mul] at h1; omega⟩
    have e : bt v (q * w + w + j) * 2 ^ (q * w + w + j) = 2 ^ (q * w) * (2 ^ w * (2 ^ j * bt v (q * w + w + j))) := by
      rw [Nat.pow_add, Nat.pow_add]; ac_rfl
    rw [e, Nat.add_mul_div_left _ _ (Nat.two_pow_pos _), Nat.add_mul_mod_self_left]
theorem part_new (v i w : Nat) (hw : 0 < w) : v % 2 ^ (i + 1) / 2 ^ (i / w * w) % 2 ^ w = v % 2 ^ i / 2 ^ (i / w * w) % 2 ^ w + bt v i * 2 ^ (i % w) ∧ v % 2 ^ i / 2 ^ (i / w * w) % 2 ^ w < 2 ^ (i % w) := by
  obtain ⟨q, hq⟩ : ∃ q, q = i / w * w := ⟨_, rfl⟩
  obtain ⟨k, hk⟩ : ∃ k, k = i % w := ⟨_, rfl⟩
  have hi : i = q + k := by rw [hq, hk, Nat.mul_comm]; exact (Nat.div_add_mod i w).symm
  have hkw : k < w := by rw [hk]; exact Nat.mod_lt _ hw
  rw [← hq, ← hk, mod_succ, hi]
  have hlt : v % 2 ^ (q + k) / 2 ^ q < 2 ^ k := Nat.div_lt_of_lt_mul (by rw [← Nat.pow_add]; exact Nat.mod_lt _ (Nat.two_pow_pos _))
  have hkk : 2 ^ (k + 1) ≤ 2 ^ w := Nat.pow_le_pow_right (by decide) hkw
  rw [Nat.pow_succ] at hkk
  have hb := bt_lt v (q + k)
  have hb2 : bt v (q + k) * 2 ^ k ≤ 1 * 2 ^ k := Nat.mul_le_mul_right _ (by omega)
  have e : bt v (q + k) * 2 ^ (q + k) = 2 ^ q * (bt v (q + k) * 2 ^ k) := by rw [Nat.pow_add, ← Nat.mul_assoc, ← Nat.mul_assoc, Nat.mul_comm (bt v (q + k))]
  rw [e, Nat.add_mul_div_left _ _ (Nat.two_pow_pos q), Nat.mod_eq_of_lt (show v % 2 ^ (q + k) / 2 ^ q + bt v (q + k) * 2 ^ k < 2 ^ w by omega), Nat.mod_eq_of_lt (show v % 2 ^ (q + k) / 2 ^ q < 2 ^ w by omega)]
  exact ⟨rfl, hlt⟩
end Go.Proofs.YteodeedejjcmgaaDoor.P
namespace Go.Proofs.YteodeedejjcmgaaDoor.P
open Go Go.RowKit Go.Proofs.YteodeedejjcmgaaDoor.E Go.Proofs.YteodeedejjcmgaaDoor.M
set_option linter.unusedVariables false
set_option linter.unusedSectionVars false
def b0 (l : List Int) : List Int := (l.map fun x => uv (zz x)).flatten
def lastOf : Int → List Int → Int
  | a, [] => a
  | _, x :: l => lastOf x l
def bD : Int → List Int → List Int
  | _, [] => []
  | a, x :: l => uv (zz (IntKind.i64.wrap (x - a))) ++ bD x l
def bR : Nat → List Int → List Int
  | _, [] => []
  | k, [x] => uv (zz x) ++ uv k
  | k, x :: y :: l => if y = x then bR (k + 1) (y :: l) else uv (zz x) ++ uv k ++ bR 0 (y :: l)
def mn : Int → List Int → Int
  | m, [] => m
  | m, x :: l => mn (if x < m then x else m) l
def ds (lo : Int) (l : List Int) : List Nat := l.map fun x => (x - lo).toNat
def wdt (D : List Nat) : Nat := D.foldl (fun w d => if w < bl d then bl d else w) 0
def ofN (l : List Nat) : List Int := l.map fun (n : Nat) => (n : Int)
def pk : List Int → List Int
  | [] => []
  | x :: l => uv (zz (mn x l)) ++ [(wdt (ds (mn x l) (x :: l)) : Int)] ++ ofN (by_ (((x :: l).length * wdt (ds (mn x l) (x :: l)) + 7) / 8) (V (wdt (ds (mn x l) (x :: l))) (ds (mn x l) (x :: l))))
def body : Nat → List Int → List Int
  | 0, l => b0 l
  | 1, l => bD 0 l
  | 2, l => bR 0 l
  | _, l => pk l
def asL (w : Nat) (l : List Int) : List Int := (w : Int) :: (uv l.length ++ body w l)
def I64 (l : List Int) : Prop := ∀ x ∈ l, i64 x
theorem I64.get {l : List Int} (h : I64 l) {i : Nat} {x : Int} (hx : l[i]? = some x) : i64 x := h x (List.mem_of_getElem? hx)
theorem len_b0 : ∀ {l : List Int}, I64 l → (b0 l).length ≤ 10 * l.length
  | [], _ => by simp [b0]
  | x :: l, h => by
    have h1 := uv_length64 (zz_lt (h x List.mem_cons_self))
    have h2 := len_b0 (l := l) fun y hy => h y (List.mem_cons_of_mem _ hy)
    simp only [b0, List.map_cons, List.flatten_cons, List.length_append, List.length_cons] at h2 ⊢
    omega
theorem len_bD : ∀ (l : List Int) (a : Int), (bD a l).length ≤ 10 * l.length
  | [], _ => by simp [bD]
  | x :: l, a => by
    have h1 := uv_length64 (zz_lt (i64_wrap (x - a)))
    have h2 := len_bD l x
    simp only [bD, List.length_append, List.length_cons]
    omega
theorem len_bR : ∀ (l : List Int) (k : Nat), I64 l → k + l.length < 18446744073709551616 → (bR k l).length ≤ 20 * l.length
  | [], _, _, _ => by simp [bR]
  | [x], k, h, hk => by
    have h1 := uv_length64 (zz_lt (h x List.mem_cons_self))
    have h2 := uv_length64 (n := k) (by simp at hk; omega)
    simp only [bR, List.length_append, List.length_cons, List.length_nil]
    omega
  | x :: y :: l, k, h, hk => by
    have h1 := uv_length64 (zz_lt (h x List.mem_cons_self))
    simp only [List.length_cons] at hk
    have h2 := uv_length64 (n := k) (by omega)
    have h' : I64 (y :: l) := fun z hz => h z (List.mem_cons_of_mem _ hz)
    unfold bR
    split
    · have := len_bR (y :: l) (k + 1) h' (by simp only [List.length_cons]; omega)
      simp only [List.length_cons] at this ⊢
      omega
    · have := len_bR (y :: l) 0 h' (by simp only [List.length_cons]; omega)
      simp only [List.length_append, List.length_cons] at this ⊢
      omega
theorem b0_snoc (l : List Int) (x : Int) : b0 (l ++ [x]) = b0 l ++ uv (zz x) := by simp [b0]
theorem bD_snoc : ∀ (l : List Int) (a x : Int), bD a (l ++ [x]) = bD a l ++ uv (zz (IntKind.i64.wrap (x - lastOf a l)))
  | [], a, x => by simp [bD, lastOf]
  | y :: l, a, x => by simp [bD, lastOf, bD_snoc l y x]
theorem lastOf_snoc : ∀ (l : List Int) (a x : Int), lastOf a (l ++ [x]) = x
  | [], a, x => rfl
  | y :: l, a, x => lastOf_snoc l y x
theorem take_snoc {l : List Int} {k : Nat} {x : Int} (h : l[k]? = some x) : l.take (k + 1) = l.take k ++ [x] := by rw [List.take_add_one, h]; rfl
theorem I64.take {l : List Int} (h : I64 l) (k : Nat) : I64 (l.take k) := fun x hx => h x (List.mem_of_mem_take hx)
section
variable {l pre : List Int} (hl : l.length ≤ 4096) (hi : I64 l) (hp : pre.length ≤ 20)
include hl hi hp
theorem col0 : loop (fun s : List Int × Int => column_As_l1 l s.1 s.2) (pre, 0) = some (pre ++ b0 l) := by
  have := loop_to (b := fun s : List Int × Int => column_As_l1 l s.1 s.2) (fun k => (pre ++ b0 (l.take k), (k : Int))) (t := pre ++ b0 l) l.length (fun k hk => by
    have hx := List.getElem?_eq_getElem hk
    have hlen := len_b0 (hi.take k)
    rw [List.length_take] at hlen
    show column_As_l1 l (pre ++ b0 (l.take k)) (k : Int) = _
    unfold column_As_l1
    rw [if_pos (by simp only [decide_eq_true_eq]; omega), at_int rfl hx]
    simp only [Option.bind_some]
    rw [Int_app (hi.get hx) _ (by simp only [List.length_append]; omega)]
    simp only [Option.bind_some, lt_]
    rw [w64 (by omega) (by omega), take_snoc hx, b0_snoc, List.append_assoc]
    rfl) (by
    show column_As_l1 l (pre ++ b0 (l.take l.length)) (l.length : Int) = _
    unfold column_As_l1
    rw [if_neg (by simp), List.take_length])
  simpa [b0] using this
theorem ref0 : loop (fun s : List Int × Int => r03_As_l1 l s.1 s.2) (pre, 0) = some (pre ++ b0 l) := by
  have := loop_to (b := fun s : List Int × Int => r03_As_l1 l s.1 s.2) (fun k => (pre ++ b0 (l.take k), (k : Int))) (t := pre ++ b0 l) l.length (fun k hk => by
    have hx := List.getElem?_eq_getElem hk
    have hlen := len_b0 (hi.take k)
    have hz := uv_length64 (zz_lt (hi.get hx))
    rw [List.length_take] at hlen
    show r03_As_l1 l (pre ++ b0 (l.take k)) (k : Int) = _
    unfold r03_As_l1
    rw [if_pos (by simp only [decide_eq_true_eq]; omega), at_int rfl hx]
    simp only [Option.bind_some]
    rw [rInt_eq (hi.get hx)]
    simp only [Option.bind_some, lt_]
    rw [chk_pos (by simp only [List.length_append]; omega), w64 (by omega) (by omega), take_snoc hx, b0_snoc, List.append_assoc]
    rfl) (by
    show r03_As_l1 l (pre ++ b0 (l.take l.length)) (l.length : Int) = _
    unfold r03_As_l1
    rw [if_neg (by simp), List.take_length])
  simpa [b0] using this
omit hi in
theorem col1 : loop (fun s : List Int × Int × Int => column_As_l2 l s.1 s.2.1 s.2.2) (pre, 0, 0) = some (pre ++ bD 0 l) := by
  have := loop_to (b := fun s : List Int × Int × Int => column_As_l2 l s.1 s.2.1 s.2.2) (fun k => (pre ++ bD 0 (l.take k), lastOf 0 (l.take k), (k : Int))) (t := pre ++ bD 0 l) l.length (fun k hk => by
    have hx := List.getElem?_eq_getElem hk
    have hlen := len_bD (l.take k) 0
    rw [List.length_take] at hlen
    show column_As_l2 l (pre ++ bD 0 (l.take k)) (lastOf 0 (l.take k)) (k : Int) = _
    unfold column_As_l2
    rw [if_pos (by simp only [decide_eq_true_eq]; omega), at_int rfl hx]
    simp only [Option.bind_some, lt_]
    rw [Int_app (i64_wrap _) _ (by simp only [List.length_append]; omega)]
    simp only [Option.bind_some]
    rw [w64 (n := (k : Int) + 1) (by omega) (by omega), take_snoc hx, bD_snoc, lastOf_snoc, List.append_assoc]
    rfl) (by
    show column_As_l2 l (pre ++ bD 0 (l.take l.length)) (lastOf 0 (l.take l.length)) (l.length : Int) = _
    unfold column_As_l2
    rw [if_neg (by simp), List.take_length])
  simpa [bD, lastOf] using this
omit hi in
theorem ref1 : loop (fun s : List Int × Int => r03_As_l2 l s.1 s.2) (pre, 0) = some (pre ++ bD 0 l) := by
  have := loop_to (b := fun s : List Int × Int => r03_As_l2 l s.1 s.2) (fun k => (pre ++ bD 0 (l.take k), (k : Int))) (t := pre ++ bD 0 l) l.length (fun k hk => by
    have hx := List.getElem?_eq_getElem hk
    have hlen := len_bD (l.take k) 0
    rw [List.length_take] at hlen
    show r03_As_l2 l (pre ++ bD 0 (l.take k)) (k : Int) = _
    have hj : r03_As_j1 l (pre ++ bD 0 (l.take k)) (k : Int) (lastOf 0 (l.take k)) = some (.inl (pre ++ bD 0 (l.take (k + 1)), ((k + 1 : Nat) : Int))) := by
      unfold r03_As_j1
      have hz := uv_length64 (zz_lt (i64_wrap (l[k] - lastOf 0 (l.take k))))
      rw [at_int rfl hx]
      simp only [Option.bind_some, lt_]
      rw [rInt_eq (i64_wrap _)]
      simp only [Option.bind_some]
      rw [chk_pos (by simp only [List.length_append]; omega), w64 (n := (k : Int) + 1) (by omega) (by omega), take_snoc hx, bD_snoc, List.append_assoc]
      rfl
    unfold r03_As_l2
    rw [if_pos (by simp only [decide_eq_true_eq]; omega)]
    cases k with
    | zero =>
      rw [if_neg (by simp)]
      exact hj
    | succ k =>
      have hx' := List.getElem?_eq_getElem (show k < l.length by omega)
      rw [if_pos (by simp only [decide_eq_true_eq]; omega), lt_, w64 (by omega) (by omega), at_int (n := k) (by omega) hx']
      simp only [Option.bind_some]
      rw [take_snoc hx', lastOf_snoc] at hj
      rw [take_snoc hx']
      exact hj) (by
    show r03_As_l2 l (pre ++ bD 0 (l.take l.length)) (l.length : Int) = _
    unfold r03_As_l2
    rw [if_neg (by simp), List.take_length])
  simpa [bD] using this
end
theorem run_split (x : Int) : ∀ rest : List Int, ∃ (m : Nat) (tl : List Int), rest = List.replicate m x ++ tl ∧ ∀ y, tl[0]? = some y → y ≠ x
  | [] => ⟨0, [], rfl, by simp⟩
  | y :: rest => by
    by_cases h : y = x
    · obtain ⟨m, tl, h1, h2⟩ := run_split x rest
      exact ⟨m + 1, tl, by rw [h, h1]; rfl, h2⟩
    · exact ⟨0, y :: rest, rfl, fun z hz => by cases hz; exact h⟩
theorem bR_run (x : Int) (tl : List Int) (h : ∀ y, tl[0]? = some y → y ≠ x) : ∀ (m k : Nat), bR k (x :: (List.replicate m x ++ tl)) = uv (zz x) ++ uv (k + m) ++ bR 0 tl
  | 0, k => by
    cases tl with
    | nil => simp [bR]
    | cons y tl =>
      have := h y rfl
      simp only [List.replicate_zero, List.nil_append, bR, if_neg this, Nat.add_zero]
  | m + 1, k => by
    rw [List.replicate_succ, List.cons_append, bR, if_pos rfl, bR_run x tl h m (k + 1), show k + 1 + m = k + (m + 1) by omega]
section
variable {l pre : List Int} (hl : l.length ≤ 4096) (hi : I64 l) (hp : pre.length ≤ 20)
include hl hi hp
theorem col2 : loop (fun s : List Int × Int => column_As_l3 l s.1 s.2) (pre, 0) = some (pre ++ bR 0 l) := by
  obtain ⟨t, ht, rfl⟩ := loop_good (b := fun s : List Int × Int => column_As_l3 l s.1 s.2) (s := (pre, 0))
    (fun s => ∃ i : Nat, s.2 = i ∧ i ≤ l.length ∧ s.1.length ≤ 20 + 20 * i ∧ s.1 ++ bR 0 (l.drop i) = pre ++ bR 0 l)
    (fun s => ((l.length : Int) - s.2).toNat) (fun t => t = pre ++ bR 0 l) ⟨0, rfl, by omega, by simpa using hp, by simp⟩ (by
      rintro ⟨acc, q⟩ ⟨i, hq, hil, hacc, hinv⟩
      simp only at hq hacc hinv
      subst hq
      show (∃ s', column_As_l3 l acc (i : Int) = some (.inl s') ∧ _) ∨ ∃ t, column_As_l3 l acc (i : Int) = some (.inr t) ∧ _
      unfold column_As_l3
      by_cases hlt : i < l.length
      · rw [if_pos (by simp only [decide_eq_true_eq]; omega)]
        have hx := List.getElem?_eq_getElem hlt
        obtain ⟨x, hxe⟩ : ∃ x, x = l[i] := ⟨_, rfl⟩
        rw [← hxe] at hx
        have hd : l.drop i = x :: l.drop (i + 1) := by rw [List.drop_eq_getElem_cons hlt, ← hxe]
        obtain ⟨m, tl, hm, htl⟩ := run_split x (l.drop (i + 1))
        have hlen : l.length = i + 1 + m + tl.length := by
          have := congrArg List.length hm
          simp only [List.length_drop, List.length_append, List.length_replicate] at this
          omega
        have hget : ∀ k, k < m → l[i + 1 + k]? = some x := by
          intro k hk
          have : (l.drop (i + 1))[k]? = some x := by rw [hm, List.getElem?_append_left (by simpa using hk)]; simp [hk]
          rwa [List.getElem?_drop] at this
        have hdr : l.drop (i + 1 + m) = tl := by
          rw [← List.drop_drop, hm]
          exact List.drop_left' (by simp)
        -- how many are alike
        have hin := loop_to (b := fun s : Int => column_As_l4 l (i : Int) s) (fun k => ((k + 1 : Nat) : Int)) (t := ((m + 1 : Nat) : Int)) m (fun k hk => by
          show column_As_l4 l (i : Int) ((k + 1 : Nat) : Int) = _
          unfold column_As_l4
          rw [lt_, w64 (by omega) (by omega), if_pos (by simp only [decide_eq_true_eq]; omega), at_int (n := i + 1 + k) (by omega) (hget k hk), at_int rfl hx]
          simp only [Option.bind_some]
          unfold column_As_j1
          rw [if_pos (by simp), lt_, w64 (by omega) (by omega)]
          rfl) (by
          show column_As_l4 l (i : Int) ((m + 1 : Nat) : Int) = _
          unfold column_As_l4
          rw [lt_, w64 (by omega) (by omega)]
          by_cases htz : tl.length = 0
          · rw [if_neg (by simp only [decide_eq_true_eq]; omega)]
            unfold column_As_j1
            rw [if_neg (by simp)]
          · obtain ⟨y, hy⟩ : ∃ y, tl[0]? = some y := ⟨_, List.getElem?_eq_getElem (by omega)⟩
            have hy' : l[i + 1 + m]? = some y := by rw [← hdr, List.getElem?_drop] at hy; exact hy
            rw [if_pos (by simp only [decide_eq_true_eq]; omega), at_int (n := i + 1 + m) (by omega) hy', at_int rfl hx]
            simp only [Option.bind_some]
            unfold column_As_j1
            rw [if_neg (by simpa using htl y hy)])
        rw [show (1 : Int) = ((0 + 1 : Nat) : Int) from rfl, hin]
        simp only [Option.bind_some]
        unfold column_As_x4_7 column_As_b5
        have hz := uv_length64 (zz_lt (hi.get hx))
        have hum := uv_length64 (n := m) (by omega)
        rw [at_int rfl hx]
        simp only [Option.bind_some]
        rw [Int_app (hi.get hx) _ (by omega)]
        simp only [Option.bind_some, lt_]
        rw [w64 (n := ((m + 1 : Nat) : Int) - 1) (by omega) (by omega), show ((m + 1 : Nat) : Int) - 1 = (m : Int) by omega, u64w (by omega) (by omega), Uint_app m _ (by omega) (by simp only [List.length_append]; omega)]
        simp only [Option.bind_some]
        rw [w64 (by omega) (by omega)]
        refine .inl ⟨_, rfl, ⟨i + 1 + m, ?_, by omega, ?_, ?_⟩, ?_⟩
        · simp only; omega
        · simp only [List.length_append]; omega
        · rw [hdr, ← hinv, hd, hm, bR_run x tl htl m 0]
          simp
        · simp only; omega
      · rw [if_neg (by simp only [decide_eq_true_eq]; omega)]
        refine .inr ⟨_, rfl, ?_⟩
        rw [← hinv, show i = l.length by omega, List.drop_length]
        simp [bR])
  exact ht
theorem ref2 : loop (fun s : List Int × Int × Int => r03_As_l3 l s.1 s.2.1 s.2.2) (pre, 0, 0) = some (pre ++ bR 0 l) := by
  obtain ⟨t, ht, rfl⟩ := loop_good (b := fun s : List Int × Int × Int => r03_As_l3 l s.1 s.2.1 s.2.2) (s := (pre, 0, 0))
    (fun s => ∃ i k : Nat, s.2.2 = i ∧ s.2.1 = k ∧ k ≤ i ∧ i ≤ l.length ∧ s.1.length ≤ 20 + 20 * i ∧ s.1 ++ bR k (l.drop i) = pre ++ bR 0 l)
    (fun s => ((l.length : Int) - s.2.2).toNat) (fun t => t = pre ++ bR 0 l) ⟨0, 0, rfl, rfl, by omega, by omega, by simpa using hp, by simp⟩ (by
      rintro ⟨acc, q2, q⟩ ⟨i, k, hq, hq2, hki, hil, hacc, hinv⟩
      simp only at hq hq2 hacc hinv
      subst hq hq2
      show (∃ s', r03_As_l3 l acc (k : Int) (i : Int) = some (.inl s') ∧ _) ∨ ∃ t, r03_As_l3 l acc (k : Int) (i : Int) = some (.inr t) ∧ _
      unfold r03_As_l3
      by_cases hlt : i < l.length
      · rw [if_pos (by simp only [decide_eq_true_eq]; omega), lt_, w64 (by omega) (by omega)]
        have hx := List.getElem?_eq_getElem hlt
        obtain ⟨x, hxe⟩ : ∃ x, x = l[i] := ⟨_, rfl⟩
        rw [← hxe] at hx
        have hd : l.drop i = x :: l.drop (i + 1) := by rw [List.drop_eq_getElem_cons hlt, ← hxe]
        have hz := uv_length64 (zz_lt (hi.get hx))
        have huk := uv_length64 (n := k) (by omega)
        -- a run's end
        have hend : (bR k (l.drop i) = uv (zz x) ++ uv k ++ bR 0 (l.drop (i + 1))) → (∃ s', r03_As_j2 l acc (k : Int) (i : Int) false = some (.inl s') ∧ (∃ i k : Nat, s'.2.2 = i ∧ s'.2.1 = k ∧ k ≤ i ∧ i ≤ l.length ∧ s'.1.length ≤ 20 + 20 * i ∧ s'.1 ++ bR k (l.drop i) = pre ++ bR 0 l) ∧ ((l.length : Int) - s'.2.2).toNat < ((l.length : Int) - (i : Int)).toNat) := by
          intro he
          unfold r03_As_j2 r03_As_b5
          rw [if_neg (by simp), at_int rfl hx]
          simp only [Option.bind_some]
          rw [rInt_eq (hi.get hx)]
          simp only [Option.bind_some]
          rw [chk_pos (by omega), rUint_eq k (by omega)]
          simp only [Option.bind_some, lt_]
          rw [chk_pos (by simp only [List.length_append]; omega), w64 (by omega) (by omega)]
          refine ⟨_, rfl, ⟨i + 1, 0, by simp, rfl, by omega, by omega, by simp only [List.length_append]; omega, ?_⟩, by simp only; omega⟩
          rw [← hinv, he]
          simp
        by_cases hlt2 : i + 1 < l.length
        · have hy := List.getElem?_eq_getElem hlt2
          obtain ⟨y, hye⟩ : ∃ y, y = l[i + 1] := ⟨_, rfl⟩
          rw [← hye] at hy
          have hd2 : l.drop (i + 1) = y :: l.drop (i + 1 + 1) := by rw [List.drop_eq_getElem_cons hlt2, ← hye]
          rw [if_pos (by simp only [decide_eq_true_eq]; omega), at_int (n := i + 1) (by omega) hy, at_int rfl hx]
          simp only [Option.bind_some]
          by_cases hyx : y = x
          · rw [show (y == x) = true by simpa using hyx]
            unfold r03_As_j2 r03_As_b5
            rw [if_pos rfl, lt_, u64w (by omega) (by omega), lt_, w64 (by omega) (by omega)]
            refine .inl ⟨_, rfl, ⟨i + 1, k + 1, by simp, by simp, by omega, by omega, by simp only; omega, ?_⟩, by simp only; omega⟩
            rw [← hinv, hd, hd2, bR, if_pos hyx]
          · rw [show (y == x) = false by simpa using hyx]
            exact .inl (hend (by rw [hd, hd2, bR, if_neg hyx]))
        · rw [if_neg (by simp only [decide_eq_true_eq]; omega)]
          have hd2 : l.drop (i + 1) = [] := List.drop_of_length_le (by omega)
          exact .inl (hend (by rw [hd, hd2]; simp [bR]))
      · rw [if_neg (by simp only [decide_eq_true_eq]; omega)]
        refine .inr ⟨_, rfl, ?_⟩
        rw [← hinv, show i = l.length by omega, List.drop_length]
        simp [bR])
  exact ht
end
end Go.Proofs.YteodeedejjcmgaaDoor.P
namespace Go.Proofs.YteodeedejjcmgaaDoor.P
open Go Go.RowKit Go.Proofs.YteodeedejjcmgaaDoor.E Go.Proofs.YteodeedejjcmgaaDoor.M
set_option linter.unusedVariables false
set_option linter.unusedSectionVars false
theorem bl_eq {k m : Nat} (h1 : 2 ^ k ≤ m) (h2 : m < 2 ^ (k + 1)) : bl m = k + 1 := by
  have e : m / 2 ^ k = 1 := by
    rw [Nat.pow_succ] at h2
    have := (Nat.le_div_iff_mul_le (Nat.two_pow_pos k)).2 (show 1 * 2 ^ k ≤ m by omega)
    have := (Nat.div_lt_iff_lt_mul (Nat.two_pow_pos k)).2 (show m < 2 * 2 ^ k by omega)
    omega
  rw [bl_shift k m h1, e, bl_pos (by decide), show 1 / 2 = 0 from rfl, bl_zero]
def steps (m : Nat) : Nat := if m < 1 then 0 else if m < 2 then 1 else if m < 4 then 2 else if m < 8 then 3 else if m < 16 then 4 else if m < 32 then 5 else if m < 64 then 6 else if m < 128 then 7 else 8
theorem bl_steps {m : Nat} (h : m < 256) : bl m = steps m := by
  unfold steps
  repeat' split
  · rw [show m = 0 by omega, bl_zero]
  · exact bl_eq (k := 0) (by omega) (by omega)
  · exact bl_eq (k := 1) (by omega) (by omega)
  · exact bl_eq (k := 2) (by omega) (by omega)
  · exact bl_eq (k := 3) (by omega) (by omega)
  · exact bl_eq (k := 4) (by omega) (by omega)
  · exact bl_eq (k := 5) (by omega) (by omega)
  · exact bl_eq (k := 6) (by omega) (by omega)
  · exact bl_eq (k := 7) (by omega) (by omega)
set_option maxRecDepth 100000 in
theorem j3_eq {m : Nat} (h : m < 256) (a : Int) (ha : 0 ≤ a) (ha' : a ≤ 64) : bits_Len64_j3 (m : Int) a = some (a + (bl m : Int)) := by
  unfold bits_Len64_j3
  rw [lt_, u8w (by omega) (by omega), at_nat]
  have key : ∀ tb : List UInt8, (∀ i : Fin 256, (tb[i.val]?).map (fun b : UInt8 => b.toNat) = some (steps i.val)) → ((tb[m]?).bind fun x133 => (ltt (IntKind.i64.wrap (x133.toNat : Int)) fun x135 => (ltt (IntKind.i64.wrap (a + x135)) fun x137 => (some x137)))) = some (a + (bl m : Int)) := by
    intro tb ht
    have := ht ⟨m, h⟩
    simp only [Option.map_eq_some_iff] at this
    obtain ⟨b, hb, hs⟩ := this
    rw [hb]
    have : steps m ≤ 8 := by unfold steps; (repeat' split) <;> omega
    simp only [Option.bind_some, lt_]
    rw [hs, w64 (n := ((steps m : Nat) : Int)) (by omega) (by omega), w64 (by omega) (by omega), bl_steps h]
  exact key _ (by decide +kernel)
theorem sh {n k : Nat} (hk : k ≤ 64) : ishr .u64 (n : Int) (k : Int) = ((n / 2 ^ k : Nat) : Int) := ishr_nat (k := .u64) n k hk
theorem Len_eq {n : Nat} (h : n < 18446744073709551616) : bits_Len64 (n : Int) = some (bl n : Int) := by
  have j2 : ∀ (m a : Nat), m < 65536 → a ≤ 56 → bits_Len64_j2 (m : Int) (a : Int) = some ((a : Int) + (bl m : Int)) := by
    intro m a hm ha
    unfold bits_Len64_j2
    by_cases hc : 256 ≤ m
    · rw [if_pos (by simp only [decide_eq_true_eq]; omega), lt_, lt_]
      have e := sh (n := m) (k := 8) (by omega)
      rw [show ((8 : Nat) : Int) = 8 from rfl] at e
      rw [e, w64 (by omega) (by omega), j3_eq (by omega) _ (by omega) (by omega), bl_shift 8 m (by omega)]
      congr 1
      omega
    · rw [if_neg (by simp only [decide_eq_true_eq]; omega), j3_eq (by omega) _ (by omega) (by omega)]
  have j1 : ∀ (m a : Nat), m < 4294967296 → a ≤ 32 → bits_Len64_j1 (m : Int) (a : Int) = some ((a : Int) + (bl m : Int)) := by
    intro m a hm ha
    unfold bits_Len64_j1
    by_cases hc : 65536 ≤ m
    · rw [if_pos (by simp only [decide_eq_true_eq]; omega), lt_, lt_]
      have e := sh (n := m) (k := 16) (by omega)
      rw [show ((16 : Nat) : Int) = 16 from rfl] at e
      rw [e, w64 (by omega) (by omega), show (a : Int) + 16 = ((a + 16 : Nat) : Int) by omega, j2 _ _ (by omega) (by omega), bl_shift 16 m (by omega)]
      congr 1
      omega
    · rw [if_neg (by simp only [decide_eq_true_eq]; omega), j2 _ _ (by omega) (by omega)]
  unfold bits_Len64
  by_cases hc : 4294967296 ≤ n
  · rw [if_pos (by simp only [decide_eq_true_eq]; omega), lt_]
    have e := sh (n := n) (k := 32) (by omega)
    rw [show ((32 : Nat) : Int) = 32 from rfl] at e
    rw [e, show (32 : Int) = ((32 : Nat) : Int) from rfl, j1 _ _ (by omega) (by omega), bl_shift 32 n (by omega)]
    congr 1
  · rw [if_neg (by simp only [decide_eq_true_eq]; omega), show (0 : Int) = ((0 : Nat) : Int) from rfl, j1 _ _ (by omega) (by omega)]
    simp
theorem width_eq {n : Nat} (h : n < 18446744073709551616) : r03_width (n : Int) = some (bl n : Int) := by
  unfold r03_width
  have key : ∀ (n w : Nat), n < 18446744073709551616 → w + bl n ≤ 64 → loop (fun s : Int × Int => r03_width_l1 s.1 s.2) ((n : Int), (w : Int)) = some ((w + bl n : Nat) : Int) := by
    intro n
    induction n using Nat.strongRecOn with
    | _ n ih =>
      intro w hn hw
      rcases Nat.eq_zero_or_pos n with rfl | hp
      · rw [loop_end (t := (w : Int)) (by
          show r03_width_l1 ((0 : Nat) : Int) (w : Int) = _
          unfold r03_width_l1
          rw [if_neg (by simp)]), bl_zero]
        rfl
      · rw [bl_pos hp] at hw ⊢
        rw [loop_nxt (s' := (((n / 2 : Nat) : Int), ((w + 1 : Nat) : Int))) (by
          show r03_width_l1 (n : Int) (w : Int) = _
          unfold r03_width_l1
          rw [if_pos (by simp only [decide_eq_true_eq]; omega), lt_, w64 (by omega) (by omega), lt_, show (n : Int).tdiv 2 = ((n / 2 : Nat) : Int) from rfl, u64w (by omega) (by omega)]
          rfl), ih (n / 2) (by omega) (w + 1) (by omega) (by omega)]
        congr 2
        omega
  rw [show (0 : Int) = ((0 : Nat) : Int) from rfl, key n 0 h (by have := bl_le 64 n (by omega); omega)]
  simp only [Option.bind_some]
  unfold r03_width_x1_0 r03_width_b1
  simp
theorem mn_snoc : ∀ (l : List Int) (m x : Int), mn m (l ++ [x]) = if x < mn m l then x else mn m l
  | [], m, x => rfl
  | y :: l, m, x => mn_snoc l _ x
theorem mn_le : ∀ (l : List Int) (m : Int), mn m l ≤ m ∧ ∀ x ∈ l, mn m l ≤ x
  | [], m => ⟨Int.le_refl _, fun x h => by cases h⟩
  | y :: l, m => by
    obtain ⟨h1, h2⟩ := mn_le l (if y < m then y else m)
    have h3 : (if y < m then y else m) ≤ m ∧ (if y < m then y else m) ≤ y := by split <;> omega
    refine ⟨Int.le_trans h1 h3.1, fun x hx => ?_⟩
    rcases List.mem_cons.1 hx with rfl | hx
    · exact Int.le_trans h1 h3.2
    · exact h2 x hx
theorem mn_mem : ∀ (l : List Int) (m : Int), mn m l = m ∨ mn m l ∈ l
  | [], m => .inl rfl
  | y :: l, m => by
    rcases mn_mem l (if y < m then y else m) with h | h
    · simp only [mn]
      rw [h]
      split
      · exact .inr List.mem_cons_self
      · exact .inl rfl
    · exact .inr (List.mem_cons_of_mem _ h)
theorem mn_i64 {x : Int} {l : List Int} (h : I64 (x :: l)) : i64 (mn x l) := by
  rcases mn_mem l x with e | e
  · rw [e]; exact h x List.mem_cons_self
  · exact h _ (List.mem_cons_of_mem _ e)
theorem d_eq {x lo : Int} (hx : i64 x) (hlo : i64 lo) (h : lo ≤ x) : IntKind.u64.wrap (IntKind.i64.wrap (x - lo)) = (((x - lo).toNat : Nat) : Int) ∧ (x - lo).toNat < 18446744073709551616 := by
  unfold i64 at hx hlo
  refine ⟨?_, by omega⟩
  rw [IntKind.wrap_u64, IntWalk.i64_left]
  unfold wrap64
  omega
theorem wdt_snoc (D : List Nat) (d : Nat) : wdt (D ++ [d]) = if wdt D < bl d then bl d else wdt D := by
  unfold wdt; rw [List.foldl_append]; rfl
theorem wdt_ge : ∀ (k : Nat) (D : List Nat), D.length = k → ∀ d ∈ D, bl d ≤ wdt D
  | 0, D, hk, d, hd => by rw [List.eq_nil_of_length_eq_zero hk] at hd; cases hd
  | k + 1, D, hk, d, hd => by
    obtain ⟨c, x, rfl⟩ : ∃ c x, D = c ++ [x] := ⟨D.dropLast, D.getLast (by intro e; rw [e] at hk; cases hk), (List.dropLast_concat_getLast _).symm⟩
    rw [wdt_snoc]
    rcases List.mem_append.1 hd with h | h
    · have := wdt_ge k c (by simpa using hk) d h
      split <;> omega
    · rw [List.mem_singleton.1 h]
      split <;> omega
theorem wdt_le (b : Nat) : ∀ (k : Nat) (D : List Nat), D.length = k → (∀ d ∈ D, bl d ≤ b) → wdt D ≤ b
  | 0, D, hk, _ => by rw [List.eq_nil_of_length_eq_zero hk]; simp [wdt]
  | k + 1, D, hk, h => by
    obtain ⟨c, x, rfl⟩ : ∃ c x, D = c ++ [x] := ⟨D.dropLast, D.getLast (by intro e; rw [e] at hk; cases hk), (List.dropLast_concat_getLast _).symm⟩
    rw [wdt_snoc]
    have h1 := wdt_le b k c (by simpa using hk) fun d hd => h d (List.mem_append.2 (.inl hd))
    have h2 := h x (List.mem_append.2 (.inr (List.mem_singleton.2 rfl)))
    split <;> omega
theorem Lt_wdt (D : List Nat) : Lt (wdt D) D := fun d hd => Nat.lt_of_lt_of_le (bl_lt d) (Nat.pow_le_pow_right (by decide) (wdt_ge _ D rfl d hd))
theorem ds_get {lo x : Int} {l : List Int} {i : Nat} (h : l[i]? = some x) : (ds lo l)[i]? = some (x - lo).toNat := by simp [ds, h]
theorem ds_length (lo : Int) (l : List Int) : (ds lo l).length = l.length := by simp [ds]
theorem by_step {m v at' : Nat} (h : at' / 8 < m) : (ofN (by_ m (v % 2 ^ at'))).set (at' / 8) ((v % 2 ^ at' / 2 ^ (8 * (at' / 8)) % 256 + bt v at' * 2 ^ (at' % 8) : Nat) : Int) = ofN (by_ m (v % 2 ^ (at' + 1))) := by
  unfold ofN
  rw [← List.map_set]
  congr 1
  refine by_ext (by simp [by_length]) fun j hj => ?_
  rw [List.length_set, by_length] at hj
  rw [by_get hj]
  by_cases e : at' / 8 = j
  · subst e
    have := (part_new v at' 8 (by decide)).1
    rw [Nat.mul_comm (at' / 8) 8, show 2 ^ 8 = 256 from rfl] at this
    rw [List.getElem?_set_self (by rw [by_length]; exact hj), this]
  · have := part_same v at' j 8 (by decide) (Ne.symm e)
    rw [Nat.mul_comm j 8, show 2 ^ 8 = 256 from rfl] at this
    rw [List.getElem?_set_ne e, by_get hj, this]
theorem ofN_get {D : List Nat} {j d : Nat} (h : D[j]? = some d) : (ofN D)[j]? = some (d : Int) := by simp [ofN, h]
theorem ofN_length (D : List Nat) : (ofN D).length = D.length := by simp [ofN]
section
variable {l : List Int} {lo : Int} {w : Nat} (hl : l.length ≤ 4096) (hi : I64 l) (hlo : i64 lo) (hle : ∀ x ∈ l, lo ≤ x) (hw : w ≤ 64) (hL : Lt w (ds lo l))
include hl hi hlo hle hw hL
omit hl in
theorem bit_eq {i : Nat} {x : Int} (hx : l[i]? = some x) {k : Nat} (hk : k < w) :
    ishr .u64 (IntKind.u64.wrap (IntKind.i64.wrap (x - lo))) (k : Int) = (((x - lo).toNat / 2 ^ k : Nat) : Int) ∧ bt (V w (ds lo l)) (i * w + k) = (x - lo).toNat / 2 ^ k % 2 ∧ (x - lo).toNat / 2 ^ k < 18446744073709551616 := by
  obtain ⟨e, e'⟩ := d_eq (hi.get hx) hlo (hle x (List.mem_of_getElem? hx))
  rw [e]
  exact ⟨sh (by omega), bt_V hL (ds_get hx) hk, Nat.lt_of_le_of_lt (Nat.div_le_self _ _) e'⟩
omit hi hlo hle hL in
theorem at_lt {i k : Nat} (hil : i < l.length) (hk : k < w) : i * w + k < l.length * w ∧ l.length * w ≤ 262144 ∧ (i * w + k) / 8 < (l.length * w + 7) / 8 := by
  have h1 : (i + 1) * w ≤ l.length * w := Nat.mul_le_mul_right _ hil
  have h2 : l.length * w ≤ 4096 * 64 := Nat.mul_le_mul hl hw
  rw [Nat.add_mul] at h1
  refine ⟨by omega, by omega, by omega⟩
theorem col_bits {i : Nat} {x : Int} (hx : l[i]? = some x) :
    loop (fun s : Int × List Int × Int => column_pack_l2 lo (w : Int) x s.1 s.2.1 s.2.2) (((i * w : Nat) : Int), ofN (by_ ((l.length * w + 7) / 8) (V w (ds lo l) % 2 ^ (i * w))), 0)
      = some ((((i + 1) * w : Nat) : Int), ofN (by_ ((l.length * w + 7) / 8) (V w (ds lo l) % 2 ^ ((i + 1) * w)))) := by
  have hil := (List.getElem?_eq_some_iff.1 hx).1
  have := loop_to (b := fun s : Int × List Int × Int => column_pack_l2 lo (w : Int) x s.1 s.2.1 s.2.2) (fun k => (((i * w + k : Nat) : Int), ofN (by_ ((l.length * w + 7) / 8) (V w (ds lo l) % 2 ^ (i * w + k))), (k : Int))) (t := ((((i + 1) * w : Nat) : Int), ofN (by_ ((l.length * w + 7) / 8) (V w (ds lo l) % 2 ^ ((i + 1) * w))))) w (fun k hk => by
    obtain ⟨h1, h2, h3⟩ := at_lt hl hw hil hk
    obtain ⟨e1, e2, e3⟩ := bit_eq hi hlo hle hw hL hx hk
    show column_pack_l2 lo (w : Int) x ((i * w + k : Nat) : Int) (ofN (by_ ((l.length * w + 7) / 8) (V w (ds lo l) % 2 ^ (i * w + k)))) (k : Int) = _
    have hstep := by_step (v := V w (ds lo l)) h3
    have hcur : V w (ds lo l) % 2 ^ (i * w + k) / 2 ^ (8 * ((i * w + k) / 8)) % 256 < 2 ^ ((i * w + k) % 8) := by
      have := (part_new (V w (ds lo l)) (i * w + k) 8 (by decide)).2
      rwa [Nat.mul_comm ((i * w + k) / 8) 8] at this
    rw [show i * w + (k + 1) = i * w + k + 1 by omega]
    generalize i * w + k = a at h1 h3 e2 hstep hcur ⊢
    have hget := ofN_get (by_get (v := V w (ds lo l) % 2 ^ a) h3)
    unfold column_pack_l2
    rw [if_pos (by simp only [decide_eq_true_eq]; omega), lt_, show ((a : Nat) : Int).tdiv 8 = ((a / 8 : Nat) : Int) from rfl, w64 (n := ((a / 8 : Nat) : Int)) (by omega) (by omega), at_int rfl hget]
    simp only [Option.bind_some, lt_]
    rw [chk_pos (by omega), e1, show ((a : Nat) : Int).tmod 8 = ((a % 8 : Nat) : Int) from rfl, chk_pos (by omega)]
    have hand : iand .u64 (((x - lo).toNat / 2 ^ k : Nat) : Int) 1 = ((bt (V w (ds lo l)) a : Nat) : Int) := by
      have := iand_u64 (a := (x - lo).toNat / 2 ^ k) (b := 1) e3 (by omega)
      rw [show ((1 : Nat) : Int) = 1 from rfl] at this
      rw [this, and_1, e2]
    have hb := bt_lt (V w (ds lo l)) a
    have hp8 : 2 ^ (a % 8) ≤ 2 ^ 7 := Nat.pow_le_pow_right (by decide) (by omega)
    have hbp : bt (V w (ds lo l)) a * 2 ^ (a % 8) ≤ 1 * 2 ^ (a % 8) := Nat.mul_le_mul_right _ (by omega)
    have hm : bt (V w (ds lo l)) a * 2 ^ (a % 8) % 256 = bt (V w (ds lo l)) a * 2 ^ (a % 8) := Nat.mod_eq_of_lt (by omega)
    rw [hand, u8w (by omega) (by omega), ishl_u8 _ _ (by omega), hm, ior_u8 (by omega) (by omega), or_top hcur, w64 (by omega) (by omega), w64 (by omega) (by omega), Int.toNat_natCast, hstep]
    rfl) (by
    show column_pack_l2 lo (w : Int) x ((i * w + w : Nat) : Int) (ofN (by_ ((l.length * w + 7) / 8) (V w (ds lo l) % 2 ^ (i * w + w)))) (w : Int) = _
    unfold column_pack_l2
    rw [if_neg (by simp), show i * w + w = (i + 1) * w by rw [Nat.add_mul, Nat.one_mul]])
  simpa using this
theorem col_all : loop (fun s : Int × List Int × Int => column_pack_l1 l lo (w : Int) s.1 s.2.1 s.2.2) (0, List.replicate ((l.length * w + 7) / 8) 0, 0) = some (ofN (by_ ((l.length * w + 7) / 8) (V w (ds lo l)))) := by
  have := loop_to (b := fun s : Int × List Int × Int => column_pack_l1 l lo (w : Int) s.1 s.2.1 s.2.2) (fun i => (((i * w : Nat) : Int), ofN (by_ ((l.length * w + 7) / 8) (V w (ds lo l) % 2 ^ (i * w))), (i : Int))) (t := ofN (by_ ((l.length * w + 7) / 8) (V w (ds lo l)))) l.length (fun i hil => by
    have hx := List.getElem?_eq_getElem hil
    show column_pack_l1 l lo (w : Int) ((i * w : Nat) : Int) (ofN (by_ ((l.length * w + 7) / 8) (V w (ds lo l) % 2 ^ (i * w)))) (i : Int) = _
    unfold column_pack_l1
    rw [if_pos (by simp only [decide_eq_true_eq]; omega), at_int rfl hx]
    simp only [Option.bind_some]
    rw [col_bits hl hi hlo hle hw hL hx]
    simp only [Option.bind_some]
    unfold column_pack_x2_4 column_pack_b3
    rw [lt_, w64 (by omega) (by omega)]
    rfl) (by
    show column_pack_l1 l lo (w : Int) ((l.length * w : Nat) : Int) (ofN (by_ ((l.length * w + 7) / 8) (V w (ds lo l) % 2 ^ (l.length * w)))) (l.length : Int) = _
    unfold column_pack_l1
    have hv := V_lt hL
    rw [ds_length] at hv
    rw [if_neg (by simp), Nat.mod_eq_of_lt hv])
  have e0 : ofN (by_ ((l.length * w + 7) / 8) (V w (ds lo l) % 2 ^ (0 * w))) = List.replicate ((l.length * w + 7) / 8) 0 := by
    rw [Nat.zero_mul, Nat.pow_zero, Nat.mod_one]
    unfold ofN by_
    rw [List.map_map, List.eq_replicate_iff]
    refine ⟨by simp, fun b hb => ?_⟩
    obtain ⟨j, _, rfl⟩ := List.mem_map.1 hb
    simp
  rw [e0] at this
  simpa using this
end
end Go.Proofs.YteodeedejjcmgaaDoor.P
