/- Texts of the claim, joined: what it uses of Mel, Des. -/
import Derived.Test.YtnefioccdkmegaaGreatDoorZe
namespace Go.Proofs.YtnefioccdkmegaaGreatDoor.M
open Go Go.RowKit Go.Proofs.YtnefioccdkmegaaGreatDoor.E
set_option linter.unusedVariables false
set_option maxRecDepth 100000
set_option maxHeartbeats 4000000
set_option linter.unusedSimpArgs false
section
variable {r:World} {L:List HP} {w:World} {Z:Nat→Prop} {wz:World}
theorem aKz {a0 a1 A0 n0 c0 A1 n1 c1 y} (G:yH a0 a1=some y) (X:SH r (own (kI .u8) 5 A0 n0 c0 a0::zone Z wz::L) w) (ha1:Imm Z wz k47 A1 n1 c1 a1) (hG1:Imm Z wz (kI .u32) (some ⟨1,0,none⟩) 16 16 dA) :
  Ret Tryz.prog 54 #[.slice A0 n0 c0,.slice A1 n1 c1] w fun v w'=>∃ (Z':Nat→Prop) (wz':World) (B0:Option Addr) (m0:Nat) (d0:Nat),v=.slice B0 m0 d0∧Sub Z wz Z' wz'∧SH r (own (kI .u8) 5 B0 m0 d0 y::zone Z' wz'::L) w':=by
 refine enter Tryz.func54 rfl Tryz.ntmps54 [(0,_),(1,_)] rfl (by simp) ?_
 intro U J Qf hQ hQn
 unfold yH at G
 refine nz 1 J rfl fun U J=>nz 3 J rfl fun U J=>nz 1 J rfl fun U J=>nz 1 J rfl fun U J=>wp_seq_k fun P6 E1=>ws fun P7 E2=>xk 1 J rfl fun U J=>aX eT (X.imm 1 ha1 rfl).2.1 J (fun U J=>?_) rfl
 refine x_m J rfl fun U J=>wn (E2 _ _ ?_)
 refine aA fun p4 E3=>?_
 have hb1:∀l9 m1 m2 m3 m4,vW a0 l9 m1 m2 m3 m4=some y→∀m5 m6 m7 m8 m9 n3 n4 n5 n6 n7 n8 n9 o0 o1 o2 U w,FR 72 [] U [(0,.slice A0 n0 c0),(5,.slice m5 m6 m7),(6,.slice m8 m9 n3),(7,.slice n4 n5 n6),(8,.slice n7 n8 n9),(9,.slice o0 o1 o2)]→SH r (own (kI .u8) 5 A0 n0 c0 a0::own (kI .i64) 2 m5 m6 m7 l9::own (kI .i64) 2 m8 m9 n3 m1::own (kI .i64) 2 n4 n5 n6 m2::own kS 9 n7 n8 n9 m3::own kF 45 o0 o1 o2 m4::zone Z wz::L) w→p4 U w:=by
  intro l9 m1 m2 m3 m4 G m5 m6 m7 m8 m9 n3 n4 n5 n6 n7 n8 n9 o0 o1 o2 U w J X
  unfold vW at G
  refine E3 _ _ (E1 _ _ ?_)
  refine nz 1 J rfl fun U J=>wp_seq_k fun P8 E4=>ws fun P9 E5=>xk 1 J rfl fun U J=>?_
  obtain⟨f6,E6,G⟩:=bnd G
  refine x_c aQc J rfl (qU E6 X (RdL.own 1 rfl (X.dropN 0)) :) fun v U w hR J=>?_
  obtain⟨f7,f8,f9,rfl,X⟩:=hR
  refine x_m J rfl fun U J=>?_
  obtain⟨g0,E7,G⟩:=bnd G
  refine x_c aQc J rfl (qU E7 X (RdL.own 3 rfl (X.dropN 0)) :) fun v U w hR J=>?_
  obtain⟨g1,g2,g3,rfl,X⟩:=hR
  refine x_m J rfl fun U J=>?_
  obtain⟨g4,E8,G⟩:=bnd G
  refine x_c aQc J rfl (qU E8 X (RdL.own 5 rfl (X.dropN 0)) :) fun v U w hR J=>?_
  obtain⟨g5,g6,g7,rfl,X⟩:=hR
  refine x_m J rfl fun U J=>?_
  obtain⟨g8,E9,G⟩:=bnd G
  refine x_c bAy J rfl (aFi E9 X (RdL.own 7 rfl (X.dropN 0)) :) fun v U w hR J=>?_
  obtain⟨g9,h0,h1,rfl,X⟩:=hR
  refine x_m J rfl fun U J=>?_
  obtain⟨h2,F1,G⟩:=bnd G
  refine x_c bA3 J rfl (aGm F1 X (RdL.own 9 rfl (X.dropN 0)) :) fun v U w hR J=>?_
  obtain⟨h3,h4,h5,rfl,X⟩:=hR
  replace X:=X.pk 11 |>.pk 5
  obtain⟨Q0,Q1,X,F2,p5⟩:=SH.freeze (n:=f8) (c:=f9) (A:=f7) X
  replace X:=X.pk 0 |>.pk 4
  obtain⟨Q2,Q3,X,F3,o3⟩:=SH.freeze (n:=g2) (c:=g3) (A:=g1) X
  have F5:=Imm.sub F2 o3
  replace X:=X.pk 0 |>.pk 3
  obtain⟨Q4,Q5,X,F6,h6⟩:=SH.freeze (n:=g6) (c:=g7) (A:=g5) X
  have F7:=Imm.sub F5 h6
  have F8:=Imm.sub F3 h6
  replace X:=X.pk 0 |>.pk 2
  obtain⟨Q6,Q7,X,F9,d3⟩:=SH.freeze (n:=h0) (c:=h1) (A:=g9) X
  have G0:=Imm.sub F7 d3
  have G1:=Imm.sub F8 d3
  have G2:=Imm.sub F6 d3
  replace X:=X.pk 0 |>.pk 1
  obtain⟨b3,b4,X,G3,b5⟩:=SH.freeze (n:=h4) (c:=h5) (A:=h3) X
  have G4:=Imm.sub G0 b5
  have G5:=Imm.sub G1 b5
  have G6:=Imm.sub G2 b5
  have G7:=Imm.sub F9 b5
  refine gV (d:=(kM b3 b4 (kI .u8))) (e:=32) (ps:=#[(0,.slice f7 f8 f9),(1,.slice g1 g2 g3),(2,.slice g5 g6 g7),(3,.slice g9 h0 h1),(4,.slice h3 h4 h5)]) (cells:=[.slice f7 f8 f9,.slice g1 g2 g3,.slice g5 g6 g7,.slice g9 h0 h1,.slice h3 h4 h5]) (xs:=[f6,g0,g4,g8,h2]) (fun w=>by kernel_rfl) rfl ⟨[.slice f7 f8 f9],_,rfl,⟨_,_,_,rfl,G4⟩,⟨[.slice g1 g2 g3],_,rfl,⟨_,_,_,rfl,G5⟩,⟨[.slice g5 g6 g7],_,rfl,⟨_,_,_,rfl,G6⟩,⟨[.slice g9 h0 h1],_,rfl,⟨_,_,_,rfl,G7⟩,⟨[.slice h3 h4 h5],_,rfl,⟨_,_,_,rfl,G3⟩,rfl⟩⟩⟩⟩⟩ J X (fun p6 U w X J=>?_) rfl
  refine aX aVi (X.rd 0 rfl).2.1 J (fun U J=>?_) rfl
  refine x_m J rfl fun U J=>wn (E5 _ _ ?_)
  refine aA fun p7 G8=>?_
  have hb2:∀o4,vF a0 o4=some y→∀o5 o6 o7 U w,FR 72 [] U [(0,.slice A0 n0 c0),(12,.slice o5 o6 o7)]→SH r (own (kI .u8) 5 A0 n0 c0 a0::own (kI .u8) 5 o5 o6 o7 o4::zone b3 b4::L) w→p7 U w:=by
   intro o4 G o5 o6 o7 U w J X
   unfold vF at G
   refine G8 _ _ (E4 _ _ ?_)
   refine ws fun Q8 G9=>xk 2 J rfl fun U J=>?_
   obtain⟨Q9,H0,G⟩:=bnd G
   refine x_c bB5 J rfl (aLi H0 X 1 rfl (RdL.own 0 rfl (X.dropN 1)) (Imm.sub hG1 (Sub.trans (Sub.trans (Sub.trans (Sub.trans p5 o3) h6) d3) b5)) :) fun v U w hR J=>?_
   obtain⟨H1,H2,H3,rfl,X⟩:=hR
   refine x_m J rfl fun U J=>wn (G9 _ _ ?_)
   replace X:=X.drop 1 |>.pk 1 |>.pk 1
   cases G
   refine wp_ret (hQ _ _ ?_)
   exact lv Tryz.results54 J rfl ⟨b3,b4,H1,H2,H3,rfl,(Sub.trans (Sub.trans (Sub.trans (Sub.trans p5 o3) h6) d3) b5),X⟩
  obtain⟨H4,H5,G⟩:=bnd G
  have H6:∀d4,(d4)=H4→∀h7 h8 h9 U w,FR 72 [] U [(0,.slice A0 n0 c0),(12,.slice h7 h8 h9)]→SH r (own (kI .u8) 5 A0 n0 c0 a0::own (kI .u8) 5 h7 h8 h9 d4::zone b3 b4::L) w→p7 U w:=by
   intro d4 ht h7 h8 h9 U w J X
   subst ht
   replace G:sN a0 d4=some y:=G
   unfold sN at G
   exact hb2 d4 G h7 h8 h9 U w (J.sub _ rfl) X
  replace X:=(SH.nil_own (d:=(kI .u8)) (e:=5) X).drop 4 |>.drop 4 |>.drop 4 |>.drop 4 |>.drop 4 |>.pk 2 |>.pk 2 |>.pk 2 |>.pk 3
  refine aD H5 (fun s U w=>∃i0 i1 i2,FR 72 [] U [(0,.slice A0 n0 c0),(12,.slice i0 i1 i2),(58,.slice (some ⟨p6,0,none⟩) 5 5),(59,.int .i64 ([f6,g0,g4,g8,h2].length:Int)),(60,.int .i64 s.2)]∧SH r (own (kI .u8) 5 A0 n0 c0 a0::own (kI .u8) 5 i0 i1 i2 s.1::own (kM b3 b4 (kI .u8)) 32 (some ⟨p6,0,none⟩) 5 5 [f6,g0,g4,g8,h2]::zone b3 b4::L) w) ⟨none,0,0,J.sub _ rfl,X⟩ ?_
  intro R0 H7 H8 G H9 I0 U w hLab
  obtain⟨p8,I1⟩:=H7
  replace G:lR f6 g0 g4 g8 h2 p8 I1=some H8:=G
  unfold lR at G
  try dsimp only at hLab
  obtain⟨i0,i1,i2,J,X⟩:=hLab
  refine nz 1 J rfl fun U J=>wp_seq_k fun R1 I2=>bB J G rfl (fun I3 G=>?_) fun I3 G=>?_
  ·refine wp_skip (I2 _ _ ?_)
   refine wp_seq_k fun R2 I4=>aA fun R3 I5=>ws fun R4 I6=>?_
   obtain⟨R5,p9,G⟩:=bnd G
   refine fO aVi aC0 (X.rd 2 rfl) p9 J (fun U J=>?_) rfl
   obtain⟨cs,hV,I7⟩:=el (X.rd 2 rfl) p9
   obtain⟨R6,R7,R8,rfl,I8⟩:=hV
   refine aI fC (I7 0 _ rfl) J (fun U J=>?_) rfl
   refine x_m J rfl fun U J=>wn (I6 _ _ ?_)
   refine aC (xk 2 J rfl fun U J=>?_)
   refine aLn fC uu5 uu9 (X.imm 3 I8 rfl) J (fun U J=>?_) rfl
   replace X:=X.pk 1
   obtain⟨R9,I9,G⟩:=bnd G
   refine x_c aXy J rfl (aA3 I9 X :) fun v U w hR J=>?_
   obtain⟨J0,J1,J2,rfl,X⟩:=hR
   refine x_m J rfl fun U J=>wpList_nil (I5 _ _ ?_)
   refine I4 _ _ (aC ?_)
   refine x_l G J rfl fun S0 _ U J G=>x_m J rfl fun U J=>wpList_nil ?_
   replace X:=X.pk 3 |>.pk 3 |>.pk 2 |>.pk 3
   cases G
   exact⟨_,H9 _ rfl,J0,J1,J2,J.sub _ rfl,X⟩
  replace X:=X.drop 2
  cases G
  exact wp_exit (H6 p8 (I0 _ rfl) i0 i1 i2 U w (J.sub _ rfl) X)
 obtain⟨J3,J4,G⟩:=bnd G
 have J5:∀d5 d6 d7 d8 d9,(d5,d6,d7,d8,d9)=J3→∀i3 i4 i5 i6 i7 i8 i9 j0 j1 j2 j3 j4 j5 j6 j7 U w,FR 72 [] U [(0,.slice A0 n0 c0),(5,.slice i3 i4 i5),(6,.slice i6 i7 i8),(7,.slice i9 j0 j1),(8,.slice j2 j3 j4),(9,.slice j5 j6 j7)]→SH r (own (kI .u8) 5 A0 n0 c0 a0::own (kI .i64) 2 i3 i4 i5 d5::own (kI .i64) 2 i6 i7 i8 d6::own (kI .i64) 2 i9 j0 j1 d7::own kS 9 j2 j3 j4 d8::own kF 45 j5 j6 j7 d9::zone Z wz::L) w→p4 U w:=by
  intro d5 d6 d7 d8 d9 ht i3 i4 i5 i6 i7 i8 i9 j0 j1 j2 j3 j4 j5 j6 j7 U w J X
  subst ht
  replace G:sQ a0 d5 d6 d7 d8 d9=some y:=G
  unfold sQ at G
  exact hb1 d5 d6 d7 d8 d9 G i3 i4 i5 i6 i7 i8 i9 j0 j1 j2 j3 j4 j5 j6 j7 U w (J.sub _ rfl) X
 replace X:=(SH.nil_own (d:=kF) (e:=45) (SH.nil_own (d:=kS) (e:=9) (SH.nil_own (d:=(kI .i64)) (e:=2) (SH.nil_own (d:=(kI .i64)) (e:=2) (SH.nil_own (d:=(kI .i64)) (e:=2) X))))).pk 6 |>.pk 1 |>.pk 2 |>.pk 3 |>.pk 4 |>.pk 5 |>.pk 6
 refine aD J4 (fun s U w=>∃e0 e1 e2 e3 e4 e5 e6 e7 e8 I S Y a2 a3 a4,FR 72 [] U [(0,.slice A0 n0 c0),(5,.slice e0 e1 e2),(6,.slice e3 e4 e5),(7,.slice e6 e7 e8),(8,.slice I S Y),(9,.slice a2 a3 a4),(15,.slice A1 n1 c1),(16,.int .i64 (a1.length:Int)),(17,.int .i64 s.2.2.2.2.2)]∧SH r (own (kI .u8) 5 A0 n0 c0 a0::own (kI .i64) 2 e0 e1 e2 s.1::own (kI .i64) 2 e3 e4 e5 s.2.1::own (kI .i64) 2 e6 e7 e8 s.2.2.1::own kS 9 I S Y s.2.2.2.1::own kF 45 a2 a3 a4 s.2.2.2.2.1::zone Z wz::L) w) ⟨none,0,0,none,0,0,none,0,0,none,0,0,none,0,0,J.sub _ rfl,X⟩ ?_
 intro S1 J6 o8 G J7 J8 U w hLab
 obtain⟨H,a5,a6,a7,a8,e9⟩:=J6
 replace G:lM a1 H a5 a6 a7 a8 e9=some o8:=G
 unfold lM at G
 try dsimp only at hLab
 obtain⟨e0,e1,e2,e3,e4,e5,e6,e7,e8,I,S,Y,a2,a3,a4,J,X⟩:=hLab
 refine nz 1 J rfl fun U J=>wp_seq_k fun S2 J9=>bB J G rfl (fun K0 G=>?_) fun K0 G=>?_
 ·refine wp_skip (J9 _ _ ?_)
  refine wp_seq_k fun S3 K1=>aA fun K2 K3=>?_
  have hb3:∀o9 p0 p1 p2 p3,vH e9 o9 p0 p1 p2 p3=some o8→∀j8 j9 k0 k1 k2 k3 k4 k5 k6 k7 k8 k9 l0 l1 l2 U w,FR 72 [] U [(0,.slice A0 n0 c0),(5,.slice j8 j9 k0),(6,.slice k1 k2 k3),(7,.slice k4 k5 k6),(8,.slice k7 k8 k9),(9,.slice l0 l1 l2),(15,.slice A1 n1 c1),(16,.int .i64 (a1.length:Int)),(17,.int .i64 e9)]→SH r (own (kI .u8) 5 A0 n0 c0 a0::own (kI .i64) 2 j8 j9 k0 o9::own (kI .i64) 2 k1 k2 k3 p0::own (kI .i64) 2 k4 k5 k6 p1::own kS 9 k7 k8 k9 p2::own kF 45 l0 l1 l2 p3::zone Z wz::L) w→K2 U w:=by
   intro o9 p0 p1 p2 p3 G j8 j9 k0 k1 k2 k3 k4 k5 k6 k7 k8 k9 l0 l1 l2 U w J X
   unfold vH at G
   refine K3 _ _ (K1 _ _ ?_)
   refine aC (x_l G J rfl fun S4 _ U J G=>?_)
   refine x_m J rfl fun U J=>wpList_nil ?_
   cases G
   exact⟨_,J7 _ rfl,j8,j9,k0,k1,k2,k3,k4,k5,k6,k7,k8,k9,l0,l1,l2,J.sub _ rfl,X⟩
  refine ws fun S5 K4=>?_
  obtain⟨z,q0,G⟩:=bnd G
  refine fO eT cI (X.imm 6 ha1 rfl) q0 J (fun U J=>?_) rfl
  obtain⟨cs,hV,K5⟩:=el (X.imm 6 ha1 rfl) q0
  obtain rfl:=hV
  refine nF (cs:=[.int .u64 z.f0,.int .i64 z.f1,.int .i64 z.f2,str z.f3,.float .f64 z.f4]) mG cI (fun j u h=>by rw [fG]; exact K5 _ _ h) J (fun U J=>?_) rfl
  refine iC (cs:=[.int .u64 0,.int .i64 0,.int .i64 0,str [],.float .f64 0]) aJ5 J X (fun a9 U w X J=>?_) rfl
  refine dH 0 cI J X rfl (fun  U w X J=>?_) rfl
  refine wn (K4 _ _ ?_)
  refine wp_seq_k fun K6 K7=>?_
  have hj1:∀b6,vN a5 a6 a7 a8 e9 z b6=some o8→∀b7 b8 b9 c3 c4 c5 c6 c7 c8 U w,FR 72 [] U [(0,.slice A0 n0 c0),(5,.slice b7 b8 b9),(6,.slice c3 c4 c5),(7,.slice c6 c7 c8),(8,.slice I S Y),(9,.slice a2 a3 a4),(11,(pP a9)),(15,.slice A1 n1 c1),(16,.int .i64 (a1.length:Int)),(17,.int .i64 e9)]→SH r (blk a9 47 [.int .u64 z.f0,.int .i64 z.f1,.int .i64 z.f2,str z.f3,.float .f64 z.f4]::own (kI .u8) 5 A0 n0 c0 a0::own (kI .i64) 2 b7 b8 b9 b6::own (kI .i64) 2 c3 c4 c5 (a5++[z.f1])::own (kI .i64) 2 c6 c7 c8 (a6++[z.f2])::own kS 9 I S Y a7::own kF 45 a2 a3 a4 a8::zone Z wz::L) w→K6 U w:=by
   intro b6 G b7 b8 b9 c3 c4 c5 c6 c7 c8 U w J X
   unfold vN at G
   refine K7 _ _ (cN [0,0,2,6,15,0,0,64,192,511,1023,2047] [3,4,8,9] rfl J X (by kernel_rfl) (by kernel_rfl) (by kernel_rfl) (by kernel_rfl) fun w X=>?_)
   refine⟨[(0,.slice I S Y),(1,.pointer (some ⟨a9,3,none⟩)),(2,str z.f3),(5,.slice a2 a3 a4),(6,.pointer (some ⟨a9,4,none⟩)),(7,.float .f64 z.f4)],?_⟩
   refine dF [0,1,2,5,6,7] [3,8] (by kernel_rfl) ⟨pm rfl,pt [(11,_)] rfl (fun U J=>eR tU J rfl rfl),pt [(38,_)] rfl (fun U J=>cM uu9 (X.cell 0 rfl 3 _ rfl) J rfl rfl rfl),pm rfl,pt [(11,_)] rfl (fun U J=>eR aGl J rfl rfl),pt [(43,_)] rfl (fun U J=>cM aKo (X.cell 0 rfl 4 _ rfl) J rfl rfl rfl),trivial⟩ ⟨?_,?_,trivial⟩
   ·refine et [(39,_)] rfl (fun U J K hK=>?_)
    refine gL (d:=kS) (e:=9) (ps:=#[(0,str z.f3)]) (cells:=[str z.f3]) (xs:=[z.f3]) (fun w=>by kernel_rfl) rfl ⟨[str z.f3],_,rfl,rfl,rfl⟩ J X (fun S6 w X=>?_) rfl
    refine hK _ [] _ rfl (dF [0,5,6,7] [4,8] (by kernel_rfl) ⟨pm rfl,pm rfl,pt [(11,_)] rfl (fun U J=>eR aGl J rfl rfl),pt [(43,_)] rfl (fun U J=>cM aKo (X.cell 1 rfl 4 _ rfl) J rfl rfl rfl),trivial⟩ ⟨?_,?_,trivial⟩)
    ·refine et [(37,_),(40,_)] rfl (fun U J K hK=>?_)
     obtain⟨K8,G⟩:=aB G
     have hr:=X.rd 0 rfl
     refine cQ 6 aKd lE J X hr.1 hr.2.1 K8 rfl (fun q1 q2 q3 w X=>?_) rfl
     refine hK _ [] _ rfl (dF [5,6,7] [8] (by kernel_rfl) ⟨pm rfl,pt [(11,_)] rfl (fun U J=>eR aGl J rfl rfl),pt [(43,_)] rfl (fun U J=>cM aKo (X.cell 2 rfl 4 _ rfl) J rfl rfl rfl),trivial⟩ ⟨et [(44,_)] rfl (fun U J K hK=>?_),trivial⟩)
     refine gL (d:=kF) (e:=45) (ps:=#[(0,.float .f64 z.f4)]) (cells:=[.float .f64 z.f4]) (xs:=[z.f4]) (fun w=>by kernel_rfl) rfl ⟨[.float .f64 z.f4],_,rfl,rfl,rfl⟩ J X (fun S7 w X=>?_) rfl
     refine hK _ [] _ rfl (dF [5] [9] (by kernel_rfl) ⟨pm rfl,trivial⟩ ⟨et [(42,_),(45,_)] rfl (fun U J K hK=>?_),trivial⟩)
     obtain⟨K9,G⟩:=aB G
     have hr:=X.rd 0 rfl
     refine cQ 8 aNu aBy J X hr.1 hr.2.1 K9 rfl (fun q4 q5 q6 w X=>?_) rfl
     refine hK _ [(10,.slice q1 q2 q3),(11,.slice q4 q5 q6)] _ rfl (gM [10,11] (by kernel_rfl) ⟨pm rfl,pm rfl,trivial⟩ ⟨by kernel_rfl,by kernel_rfl⟩ [(0,_),(5,_),(6,_),(7,_),(8,_),(9,_),(15,_),(16,_),(17,_)] rfl (fun U J=>?_))
     replace X:=X.drop 1 |>.drop 2 |>.drop 2 |>.pk 6 |>.pk 1 |>.pk 2 |>.pk 6 |>.pk 6 |>.pk 6 |>.pk 6
     exact hb3 b6 (a5++[z.f1]) (a6++[z.f2]) (a7++[z.f3]) (a8++[z.f4]) G b7 b8 b9 c3 c4 c5 c6 c7 c8 q1 q2 q3 q4 q5 q6 U w (J.sub _ rfl) X
    ·refine et [(44,_)] rfl (fun U J K hK=>?_)
     refine gL (d:=kF) (e:=45) (ps:=#[(0,.float .f64 z.f4)]) (cells:=[.float .f64 z.f4]) (xs:=[z.f4]) (fun w=>by kernel_rfl) rfl ⟨[.float .f64 z.f4],_,rfl,rfl,rfl⟩ J X (fun S8 w X=>?_) rfl
     refine hK _ [] _ rfl (dF [0,5] [4] (by kernel_rfl) ⟨pm rfl,pm rfl,trivial⟩ ⟨et [(37,_),(40,_)] rfl (fun U J K hK=>?_),trivial⟩)
     obtain⟨L1,G⟩:=aB G
     have hr:=X.rd 1 rfl
     refine cQ 7 aKd lE J X hr.1 hr.2.1 L1 rfl (fun q7 q8 q9 w X=>?_) rfl
     refine hK _ [] _ rfl (dF [5] [9] (by kernel_rfl) ⟨pm rfl,trivial⟩ ⟨et [(42,_),(45,_)] rfl (fun U J K hK=>?_),trivial⟩)
     obtain⟨L2,G⟩:=aB G
     have hr:=X.rd 1 rfl
     refine cQ 8 aNu aBy J X hr.1 hr.2.1 L2 rfl (fun r0 r1 r2 w X=>?_) rfl
     refine hK _ [(10,.slice q7 q8 q9),(11,.slice r0 r1 r2)] _ rfl (gM [10,11] (by kernel_rfl) ⟨pm rfl,pm rfl,trivial⟩ ⟨by kernel_rfl,by kernel_rfl⟩ [(0,_),(5,_),(6,_),(7,_),(8,_),(9,_),(15,_),(16,_),(17,_)] rfl (fun U J=>?_))
     replace X:=X.drop 2 |>.drop 2 |>.drop 2 |>.pk 6 |>.pk 1 |>.pk 2 |>.pk 6 |>.pk 6 |>.pk 6 |>.pk 6
     exact hb3 b6 (a5++[z.f1]) (a6++[z.f2]) (a7++[z.f3]) (a8++[z.f4]) G b7 b8 b9 c3 c4 c5 c6 c7 c8 q7 q8 q9 r0 r1 r2 U w (J.sub _ rfl) X
   ·refine et [(44,_)] rfl (fun U J K hK=>?_)
    refine gL (d:=kF) (e:=45) (ps:=#[(0,.float .f64 z.f4)]) (cells:=[.float .f64 z.f4]) (xs:=[z.f4]) (fun w=>by kernel_rfl) rfl ⟨[.float .f64 z.f4],_,rfl,rfl,rfl⟩ J X (fun S9 w X=>?_) rfl
    refine hK _ [] _ rfl (dF [0,1,2,5] [3] (by kernel_rfl) ⟨pm rfl,pt [(11,_)] rfl (fun U J=>eR tU J rfl rfl),pt [(38,_)] rfl (fun U J=>cM uu9 (X.cell 1 rfl 3 _ rfl) J rfl rfl rfl),pm rfl,trivial⟩ ⟨et [(39,_)] rfl (fun U J K hK=>?_),trivial⟩)
    refine gL (d:=kS) (e:=9) (ps:=#[(0,str z.f3)]) (cells:=[str z.f3]) (xs:=[z.f3]) (fun w=>by kernel_rfl) rfl ⟨[str z.f3],_,rfl,rfl,rfl⟩ J X (fun T0 w X=>?_) rfl
    refine hK _ [] _ rfl (dF [0,5] [4] (by kernel_rfl) ⟨pm rfl,pm rfl,trivial⟩ ⟨et [(37,_),(40,_)] rfl (fun U J K hK=>?_),trivial⟩)
    obtain⟨L3,G⟩:=aB G
    have hr:=X.rd 0 rfl
    refine cQ 7 aKd lE J X hr.1 hr.2.1 L3 rfl (fun r3 r4 r5 w X=>?_) rfl
    refine hK _ [] _ rfl (dF [5] [9] (by kernel_rfl) ⟨pm rfl,trivial⟩ ⟨et [(42,_),(45,_)] rfl (fun U J K hK=>?_),trivial⟩)
    obtain⟨L4,G⟩:=aB G
    have hr:=X.rd 2 rfl
    refine cQ 8 aNu aBy J X hr.1 hr.2.1 L4 rfl (fun r6 r7 r8 w X=>?_) rfl
    refine hK _ [(10,.slice r3 r4 r5),(11,.slice r6 r7 r8)] _ rfl (gM [10,11] (by kernel_rfl) ⟨pm rfl,pm rfl,trivial⟩ ⟨by kernel_rfl,by kernel_rfl⟩ [(0,_),(5,_),(6,_),(7,_),(8,_),(9,_),(15,_),(16,_),(17,_)] rfl (fun U J=>?_))
    replace X:=X.drop 2 |>.drop 2 |>.drop 2 |>.pk 6 |>.pk 1 |>.pk 2 |>.pk 6 |>.pk 6 |>.pk 6 |>.pk 6
    exact hb3 b6 (a5++[z.f1]) (a6++[z.f2]) (a7++[z.f3]) (a8++[z.f4]) G b7 b8 b9 c3 c4 c5 c6 c7 c8 r3 r4 r5 r6 r7 r8 U w (J.sub _ rfl) X
  refine cN [0,0,2,6,14,31,0,0,128,384,1023,0,0,4096,12288,32767,65535,131071,262143] [4,5,9,10,14,15] rfl J X (by kernel_rfl) (by kernel_rfl) (by kernel_rfl) (by kernel_rfl) fun w X=>?_
  obtain⟨C,f5,G⟩:=nZ G
  refine⟨[(0,.slice e0 e1 e2),(1,(pP a9)),(2,.int .u64 z.f0),(3,.int .i64 C),(6,.slice e3 e4 e5),(7,.pointer (some ⟨a9,1,none⟩)),(8,.int .i64 z.f1),(11,.slice e6 e7 e8),(12,.pointer (some ⟨a9,2,none⟩)),(13,.int .i64 z.f2)],?_⟩
  refine dF [0,1,2,3,6,7,8,11,12,13] [4,9,14] (by kernel_rfl) ⟨pm rfl,pt [(11,_)] rfl (fun U J=>eR uX J rfl rfl),pt [(22,_)] rfl (fun U J=>cM mD (X.cell 0 rfl 0 _ rfl) J rfl rfl rfl),pt [(23,_)] rfl fun U J=>jY f5 (aS mD uu2 rfl (J.ev rfl)),pm rfl,pt [(11,_)] rfl (fun U J=>eR tX J rfl rfl),pt [(28,_)] rfl (fun U J=>cM uu3 (X.cell 0 rfl 1 _ rfl) J rfl rfl rfl),pm rfl,pt [(11,_)] rfl (fun U J=>eR jN J rfl rfl),pt [(33,_)] rfl (fun U J=>cM uu2 (X.cell 0 rfl 2 _ rfl) J rfl rfl rfl),trivial⟩ ⟨?_,?_,?_,trivial⟩
  ·refine et [(24,_)] rfl (fun U J K hK=>?_)
   refine gL (d:=(kI .i64)) (e:=2) (ps:=#[(0,.int .i64 C)]) (cells:=[.int .i64 C]) (xs:=[C]) (fun w=>by kernel_rfl) rfl ⟨[.int .i64 C],_,rfl,rfl,rfl⟩ J X (fun T1 w X=>?_) rfl
   refine hK _ [] _ rfl (dF [0,6,7,8,11,12,13] [5,9,14] (by kernel_rfl) ⟨pm rfl,pm rfl,pt [(11,_)] rfl (fun U J=>eR tX J rfl rfl),pt [(28,_)] rfl (fun U J=>cM uu3 (X.cell 1 rfl 1 _ rfl) J rfl rfl rfl),pm rfl,pt [(11,_)] rfl (fun U J=>eR jN J rfl rfl),pt [(33,_)] rfl (fun U J=>cM uu2 (X.cell 1 rfl 2 _ rfl) J rfl rfl rfl),trivial⟩ ⟨?_,?_,?_,trivial⟩)
   ·refine et [(21,_),(25,_)] rfl (fun U J K hK=>?_)
    obtain⟨L5,G⟩:=aB G
    have hr:=X.rd 0 rfl
    refine cQ 3 kO bM J X hr.1 hr.2.1 L5 rfl (fun c9 d1 d2 w X=>?_) rfl
    refine hK _ [] _ rfl (dF [6,7,8,11,12,13] [9,14] (by kernel_rfl) ⟨pm rfl,pt [(11,_)] rfl (fun U J=>eR tX J rfl rfl),pt [(28,_)] rfl (fun U J=>cM uu3 (X.cell 2 rfl 1 _ rfl) J rfl rfl rfl),pm rfl,pt [(11,_)] rfl (fun U J=>eR jN J rfl rfl),pt [(33,_)] rfl (fun U J=>cM uu2 (X.cell 2 rfl 2 _ rfl) J rfl rfl rfl),trivial⟩ ⟨?_,?_,trivial⟩)
    ·refine et [(29,_)] rfl (fun U J K hK=>?_)
     refine gL (d:=(kI .i64)) (e:=2) (ps:=#[(0,.int .i64 z.f1)]) (cells:=[.int .i64 z.f1]) (xs:=[z.f1]) (fun w=>by kernel_rfl) rfl ⟨[.int .i64 z.f1],_,rfl,rfl,rfl⟩ J X (fun T2 w X=>?_) rfl
     refine hK _ [] _ rfl (dF [6,11,12,13] [10,14] (by kernel_rfl) ⟨pm rfl,pm rfl,pt [(11,_)] rfl (fun U J=>eR jN J rfl rfl),pt [(33,_)] rfl (fun U J=>cM uu2 (X.cell 3 rfl 2 _ rfl) J rfl rfl rfl),trivial⟩ ⟨?_,?_,trivial⟩)
     ·refine et [(27,_),(30,_)] rfl (fun U J K hK=>?_)
      obtain⟨L6,G⟩:=aB G
      have hr:=X.rd 0 rfl
      refine cQ 5 kO bM J X hr.1 hr.2.1 L6 rfl (fun r9 s2 s3 w X=>?_) rfl
      refine hK _ [] _ rfl (dF [11,12,13] [14] (by kernel_rfl) ⟨pm rfl,pt [(11,_)] rfl (fun U J=>eR jN J rfl rfl),pt [(33,_)] rfl (fun U J=>cM uu2 (X.cell 4 rfl 2 _ rfl) J rfl rfl rfl),trivial⟩ ⟨et [(34,_)] rfl (fun U J K hK=>?_),trivial⟩)
      refine gL (d:=(kI .i64)) (e:=2) (ps:=#[(0,.int .i64 z.f2)]) (cells:=[.int .i64 z.f2]) (xs:=[z.f2]) (fun w=>by kernel_rfl) rfl ⟨[.int .i64 z.f2],_,rfl,rfl,rfl⟩ J X (fun T3 w X=>?_) rfl
      refine hK _ [] _ rfl (dF [11] [15] (by kernel_rfl) ⟨pm rfl,trivial⟩ ⟨et [(32,_),(35,_)] rfl (fun U J K hK=>?_),trivial⟩)
      obtain⟨L7,G⟩:=aB G
      have hr:=X.rd 0 rfl
      refine cQ 7 kO bM J X hr.1 hr.2.1 L7 rfl (fun s4 s5 s6 w X=>?_) rfl
      refine hK _ [(16,.slice c9 d1 d2),(17,.slice r9 s2 s3),(18,.slice s4 s5 s6)] _ rfl (gM [16,17,18] (by kernel_rfl) ⟨pm rfl,pm rfl,pm rfl,trivial⟩ ⟨by kernel_rfl,by kernel_rfl⟩ [(0,_),(5,_),(6,_),(7,_),(8,_),(9,_),(11,_),(15,_),(16,_),(17,_)] rfl (fun U J=>?_))
      replace X:=X.drop 1 |>.drop 2 |>.drop 3 |>.pk 7 |>.pk 7 |>.pk 7 |>.pk 3 |>.pk 4 |>.pk 5 |>.pk 7 |>.pk 7
      exact hj1 (H++[C]) G c9 d1 d2 r9 s2 s3 s4 s5 s6 U w (J.sub _ rfl) X
     ·refine et [(34,_)] rfl (fun U J K hK=>?_)
      refine gL (d:=(kI .i64)) (e:=2) (ps:=#[(0,.int .i64 z.f2)]) (cells:=[.int .i64 z.f2]) (xs:=[z.f2]) (fun w=>by kernel_rfl) rfl ⟨[.int .i64 z.f2],_,rfl,rfl,rfl⟩ J X (fun T4 w X=>?_) rfl
      refine hK _ [] _ rfl (dF [6,11] [10] (by kernel_rfl) ⟨pm rfl,pm rfl,trivial⟩ ⟨et [(27,_),(30,_)] rfl (fun U J K hK=>?_),trivial⟩)
      obtain⟨L8,G⟩:=aB G
      have hr:=X.rd 1 rfl
      refine cQ 6 kO bM J X hr.1 hr.2.1 L8 rfl (fun s7 s8 s9 w X=>?_) rfl
      refine hK _ [] _ rfl (dF [11] [15] (by kernel_rfl) ⟨pm rfl,trivial⟩ ⟨et [(32,_),(35,_)] rfl (fun U J K hK=>?_),trivial⟩)
      obtain⟨L9,G⟩:=aB G
      have hr:=X.rd 1 rfl
      refine cQ 7 kO bM J X hr.1 hr.2.1 L9 rfl (fun t0 t1 t3 w X=>?_) rfl
      refine hK _ [(16,.slice c9 d1 d2),(17,.slice s7 s8 s9),(18,.slice t0 t1 t3)] _ rfl (gM [16,17,18] (by kernel_rfl) ⟨pm rfl,pm rfl,pm rfl,trivial⟩ ⟨by kernel_rfl,by kernel_rfl⟩ [(0,_),(5,_),(6,_),(7,_),(8,_),(9,_),(11,_),(15,_),(16,_),(17,_)] rfl (fun U J=>?_))
      replace X:=X.drop 2 |>.drop 2 |>.drop 3 |>.pk 7 |>.pk 7 |>.pk 7 |>.pk 3 |>.pk 4 |>.pk 5 |>.pk 7 |>.pk 7
      exact hj1 (H++[C]) G c9 d1 d2 s7 s8 s9 t0 t1 t3 U w (J.sub _ rfl) X
    ·refine et [(34,_)] rfl (fun U J K hK=>?_)
     refine gL (d:=(kI .i64)) (e:=2) (ps:=#[(0,.int .i64 z.f2)]) (cells:=[.int .i64 z.f2]) (xs:=[z.f2]) (fun w=>by kernel_rfl) rfl ⟨[.int .i64 z.f2],_,rfl,rfl,rfl⟩ J X (fun T5 w X=>?_) rfl
     refine hK _ [] _ rfl (dF [6,7,8,11] [9] (by kernel_rfl) ⟨pm rfl,pt [(11,_)] rfl (fun U J=>eR tX J rfl rfl),pt [(28,_)] rfl (fun U J=>cM uu3 (X.cell 3 rfl 1 _ rfl) J rfl rfl rfl),pm rfl,trivial⟩ ⟨et [(29,_)] rfl (fun U J K hK=>?_),trivial⟩)
     refine gL (d:=(kI .i64)) (e:=2) (ps:=#[(0,.int .i64 z.f1)]) (cells:=[.int .i64 z.f1]) (xs:=[z.f1]) (fun w=>by kernel_rfl) rfl ⟨[.int .i64 z.f1],_,rfl,rfl,rfl⟩ J X (fun T6 w X=>?_) rfl
     refine hK _ [] _ rfl (dF [6,11] [10] (by kernel_rfl) ⟨pm rfl,pm rfl,trivial⟩ ⟨et [(27,_),(30,_)] rfl (fun U J K hK=>?_),trivial⟩)
     obtain⟨M0,G⟩:=aB G
     have hr:=X.rd 0 rfl
     refine cQ 6 kO bM J X hr.1 hr.2.1 M0 rfl (fun t4 t5 t6 w X=>?_) rfl
     refine hK _ [] _ rfl (dF [11] [15] (by kernel_rfl) ⟨pm rfl,trivial⟩ ⟨et [(32,_),(35,_)] rfl (fun U J K hK=>?_),trivial⟩)
     obtain⟨M1,G⟩:=aB G
     have hr:=X.rd 2 rfl
     refine cQ 7 kO bM J X hr.1 hr.2.1 M1 rfl (fun t7 t8 t9 w X=>?_) rfl
     refine hK _ [(16,.slice c9 d1 d2),(17,.slice t4 t5 t6),(18,.slice t7 t8 t9)] _ rfl (gM [16,17,18] (by kernel_rfl) ⟨pm rfl,pm rfl,pm rfl,trivial⟩ ⟨by kernel_rfl,by kernel_rfl⟩ [(0,_),(5,_),(6,_),(7,_),(8,_),(9,_),(11,_),(15,_),(16,_),(17,_)] rfl (fun U J=>?_))
     replace X:=X.drop 2 |>.drop 2 |>.drop 3 |>.pk 7 |>.pk 7 |>.pk 7 |>.pk 3 |>.pk 4 |>.pk 5 |>.pk 7 |>.pk 7
     exact hj1 (H++[C]) G c9 d1 d2 t4 t5 t6 t7 t8 t9 U w (J.sub _ rfl) X
   ·refine et [(29,_)] rfl (fun U J K hK=>?_)
    refine gL (d:=(kI .i64)) (e:=2) (ps:=#[(0,.int .i64 z.f1)]) (cells:=[.int .i64 z.f1]) (xs:=[z.f1]) (fun w=>by kernel_rfl) rfl ⟨[.int .i64 z.f1],_,rfl,rfl,rfl⟩ J X (fun T7 w X=>?_) rfl
    refine hK _ [] _ rfl (dF [0,6,11,12,13] [5,14] (by kernel_rfl) ⟨pm rfl,pm rfl,pm rfl,pt [(11,_)] rfl (fun U J=>eR jN J rfl rfl),pt [(33,_)] rfl (fun U J=>cM uu2 (X.cell 2 rfl 2 _ rfl) J rfl rfl rfl),trivial⟩ ⟨?_,?_,trivial⟩)
    ·refine et [(21,_),(25,_)] rfl (fun U J K hK=>?_)
     obtain⟨M2,G⟩:=aB G
     have hr:=X.rd 1 rfl
     refine cQ 4 kO bM J X hr.1 hr.2.1 M2 rfl (fun l3 l4 l5 w X=>?_) rfl
     refine hK _ [] _ rfl (dF [6,11,12,13] [10,14] (by kernel_rfl) ⟨pm rfl,pm rfl,pt [(11,_)] rfl (fun U J=>eR jN J rfl rfl),pt [(33,_)] rfl (fun U J=>cM uu2 (X.cell 3 rfl 2 _ rfl) J rfl rfl rfl),trivial⟩ ⟨?_,?_,trivial⟩)
     ·refine et [(27,_),(30,_)] rfl (fun U J K hK=>?_)
      obtain⟨M3,G⟩:=aB G
      have hr:=X.rd 1 rfl
      refine cQ 5 kO bM J X hr.1 hr.2.1 M3 rfl (fun u0 u1 u2 w X=>?_) rfl
      refine hK _ [] _ rfl (dF [11,12,13] [14] (by kernel_rfl) ⟨pm rfl,pt [(11,_)] rfl (fun U J=>eR jN J rfl rfl),pt [(33,_)] rfl (fun U J=>cM uu2 (X.cell 4 rfl 2 _ rfl) J rfl rfl rfl),trivial⟩ ⟨et [(34,_)] rfl (fun U J K hK=>?_),trivial⟩)
      refine gL (d:=(kI .i64)) (e:=2) (ps:=#[(0,.int .i64 z.f2)]) (cells:=[.int .i64 z.f2]) (xs:=[z.f2]) (fun w=>by kernel_rfl) rfl ⟨[.int .i64 z.f2],_,rfl,rfl,rfl⟩ J X (fun T8 w X=>?_) rfl
      refine hK _ [] _ rfl (dF [11] [15] (by kernel_rfl) ⟨pm rfl,trivial⟩ ⟨et [(32,_),(35,_)] rfl (fun U J K hK=>?_),trivial⟩)
      obtain⟨M4,G⟩:=aB G
      have hr:=X.rd 0 rfl
      refine cQ 7 kO bM J X hr.1 hr.2.1 M4 rfl (fun u3 u4 u5 w X=>?_) rfl
      refine hK _ [(16,.slice l3 l4 l5),(17,.slice u0 u1 u2),(18,.slice u3 u4 u5)] _ rfl (gM [16,17,18] (by kernel_rfl) ⟨pm rfl,pm rfl,pm rfl,trivial⟩ ⟨by kernel_rfl,by kernel_rfl⟩ [(0,_),(5,_),(6,_),(7,_),(8,_),(9,_),(11,_),(15,_),(16,_),(17,_)] rfl (fun U J=>?_))
      replace X:=X.drop 1 |>.drop 3 |>.drop 3 |>.pk 7 |>.pk 7 |>.pk 7 |>.pk 3 |>.pk 4 |>.pk 5 |>.pk 7 |>.pk 7
      exact hj1 (H++[C]) G l3 l4 l5 u0 u1 u2 u3 u4 u5 U w (J.sub _ rfl) X
     ·refine et [(34,_)] rfl (fun U J K hK=>?_)
      refine gL (d:=(kI .i64)) (e:=2) (ps:=#[(0,.int .i64 z.f2)]) (cells:=[.int .i64 z.f2]) (xs:=[z.f2]) (fun w=>by kernel_rfl) rfl ⟨[.int .i64 z.f2],_,rfl,rfl,rfl⟩ J X (fun T9 w X=>?_) rfl
      refine hK _ [] _ rfl (dF [6,11] [10] (by kernel_rfl) ⟨pm rfl,pm rfl,trivial⟩ ⟨et [(27,_),(30,_)] rfl (fun U J K hK=>?_),trivial⟩)
      obtain⟨M5,G⟩:=aB G
      have hr:=X.rd 2 rfl
      refine cQ 6 kO bM J X hr.1 hr.2.1 M5 rfl (fun u6 u7 u9 w X=>?_) rfl
      refine hK _ [] _ rfl (dF [11] [15] (by kernel_rfl) ⟨pm rfl,trivial⟩ ⟨et [(32,_),(35,_)] rfl (fun U J K hK=>?_),trivial⟩)
      obtain⟨M6,G⟩:=aB G
      have hr:=X.rd 1 rfl
      refine cQ 7 kO bM J X hr.1 hr.2.1 M6 rfl (fun v0 v1 v2 w X=>?_) rfl
      refine hK _ [(16,.slice l3 l4 l5),(17,.slice u6 u7 u9),(18,.slice v0 v1 v2)] _ rfl (gM [16,17,18] (by kernel_rfl) ⟨pm rfl,pm rfl,pm rfl,trivial⟩ ⟨by kernel_rfl,by kernel_rfl⟩ [(0,_),(5,_),(6,_),(7,_),(8,_),(9,_),(11,_),(15,_),(16,_),(17,_)] rfl (fun U J=>?_))
      replace X:=X.drop 2 |>.drop 3 |>.drop 3 |>.pk 7 |>.pk 7 |>.pk 7 |>.pk 3 |>.pk 4 |>.pk 5 |>.pk 7 |>.pk 7
      exact hj1 (H++[C]) G l3 l4 l5 u6 u7 u9 v0 v1 v2 U w (J.sub _ rfl) X
    ·refine et [(34,_)] rfl (fun U J K hK=>?_)
     refine gL (d:=(kI .i64)) (e:=2) (ps:=#[(0,.int .i64 z.f2)]) (cells:=[.int .i64 z.f2]) (xs:=[z.f2]) (fun w=>by kernel_rfl) rfl ⟨[.int .i64 z.f2],_,rfl,rfl,rfl⟩ J X (fun U0 w X=>?_) rfl
     refine hK _ [] _ rfl (dF [0,6,11] [5] (by kernel_rfl) ⟨pm rfl,pm rfl,pm rfl,trivial⟩ ⟨et [(21,_),(25,_)] rfl (fun U J K hK=>?_),trivial⟩)
     obtain⟨M7,G⟩:=aB G
     have hr:=X.rd 2 rfl
     refine cQ 5 kO bM J X hr.1 hr.2.1 M7 rfl (fun v3 v4 v5 w X=>?_) rfl
     refine hK _ [] _ rfl (dF [6,11] [10] (by kernel_rfl) ⟨pm rfl,pm rfl,trivial⟩ ⟨et [(27,_),(30,_)] rfl (fun U J K hK=>?_),trivial⟩)
     obtain⟨M8,G⟩:=aB G
     have hr:=X.rd 2 rfl
     refine cQ 6 kO bM J X hr.1 hr.2.1 M8 rfl (fun v6 v7 v8 w X=>?_) rfl
     refine hK _ [] _ rfl (dF [11] [15] (by kernel_rfl) ⟨pm rfl,trivial⟩ ⟨et [(32,_),(35,_)] rfl (fun U J K hK=>?_),trivial⟩)
     obtain⟨M9,G⟩:=aB G
     have hr:=X.rd 2 rfl
     refine cQ 7 kO bM J X hr.1 hr.2.1 M9 rfl (fun v9 w0 w1 w X=>?_) rfl
     refine hK _ [(16,.slice v3 v4 v5),(17,.slice v6 v7 v8),(18,.slice v9 w0 w1)] _ rfl (gM [16,17,18] (by kernel_rfl) ⟨pm rfl,pm rfl,pm rfl,trivial⟩ ⟨by kernel_rfl,by kernel_rfl⟩ [(0,_),(5,_),(6,_),(7,_),(8,_),(9,_),(11,_),(15,_),(16,_),(17,_)] rfl (fun U J=>?_))
     replace X:=X.drop 3 |>.drop 3 |>.drop 3 |>.pk 7 |>.pk 7 |>.pk 7 |>.pk 3 |>.pk 4 |>.pk 5 |>.pk 7 |>.pk 7
     exact hj1 (H++[C]) G v3 v4 v5 v6 v7 v8 v9 w0 w1 U w (J.sub _ rfl) X
   ·refine et [(34,_)] rfl (fun U J K hK=>?_)
    refine gL (d:=(kI .i64)) (e:=2) (ps:=#[(0,.int .i64 z.f2)]) (cells:=[.int .i64 z.f2]) (xs:=[z.f2]) (fun w=>by kernel_rfl) rfl ⟨[.int .i64 z.f2],_,rfl,rfl,rfl⟩ J X (fun U1 w X=>?_) rfl
    refine hK _ [] _ rfl (dF [0,6,7,8,11] [5,9] (by kernel_rfl) ⟨pm rfl,pm rfl,pt [(11,_)] rfl (fun U J=>eR tX J rfl rfl),pt [(28,_)] rfl (fun U J=>cM uu3 (X.cell 2 rfl 1 _ rfl) J rfl rfl rfl),pm rfl,trivial⟩ ⟨?_,?_,trivial⟩)
    ·refine et [(21,_),(25,_)] rfl (fun U J K hK=>?_)
     obtain⟨N0,G⟩:=aB G
     have hr:=X.rd 1 rfl
     refine cQ 4 kO bM J X hr.1 hr.2.1 N0 rfl (fun w2 w3 w4 w X=>?_) rfl
     refine hK _ [] _ rfl (dF [6,7,8,11] [9] (by kernel_rfl) ⟨pm rfl,pt [(11,_)] rfl (fun U J=>eR tX J rfl rfl),pt [(28,_)] rfl (fun U J=>cM uu3 (X.cell 3 rfl 1 _ rfl) J rfl rfl rfl),pm rfl,trivial⟩ ⟨et [(29,_)] rfl (fun U J K hK=>?_),trivial⟩)
     refine gL (d:=(kI .i64)) (e:=2) (ps:=#[(0,.int .i64 z.f1)]) (cells:=[.int .i64 z.f1]) (xs:=[z.f1]) (fun w=>by kernel_rfl) rfl ⟨[.int .i64 z.f1],_,rfl,rfl,rfl⟩ J X (fun U2 w X=>?_) rfl
     refine hK _ [] _ rfl (dF [6,11] [10] (by kernel_rfl) ⟨pm rfl,pm rfl,trivial⟩ ⟨et [(27,_),(30,_)] rfl (fun U J K hK=>?_),trivial⟩)
     obtain⟨N1,G⟩:=aB G
     have hr:=X.rd 0 rfl
     refine cQ 6 kO bM J X hr.1 hr.2.1 N1 rfl (fun w5 w6 w7 w X=>?_) rfl
     refine hK _ [] _ rfl (dF [11] [15] (by kernel_rfl) ⟨pm rfl,trivial⟩ ⟨et [(32,_),(35,_)] rfl (fun U J K hK=>?_),trivial⟩)
     obtain⟨N2,G⟩:=aB G
     have hr:=X.rd 3 rfl
     refine cQ 7 kO bM J X hr.1 hr.2.1 N2 rfl (fun w8 w9 x0 w X=>?_) rfl
     refine hK _ [(16,.slice w2 w3 w4),(17,.slice w5 w6 w7),(18,.slice w8 w9 x0)] _ rfl (gM [16,17,18] (by kernel_rfl) ⟨pm rfl,pm rfl,pm rfl,trivial⟩ ⟨by kernel_rfl,by kernel_rfl⟩ [(0,_),(5,_),(6,_),(7,_),(8,_),(9,_),(11,_),(15,_),(16,_),(17,_)] rfl (fun U J=>?_))
     replace X:=X.drop 2 |>.drop 3 |>.drop 3 |>.pk 7 |>.pk 7 |>.pk 7 |>.pk 3 |>.pk 4 |>.pk 5 |>.pk 7 |>.pk 7
     exact hj1 (H++[C]) G w2 w3 w4 w5 w6 w7 w8 w9 x0 U w (J.sub _ rfl) X
    ·refine et [(29,_)] rfl (fun U J K hK=>?_)
     refine gL (d:=(kI .i64)) (e:=2) (ps:=#[(0,.int .i64 z.f1)]) (cells:=[.int .i64 z.f1]) (xs:=[z.f1]) (fun w=>by kernel_rfl) rfl ⟨[.int .i64 z.f1],_,rfl,rfl,rfl⟩ J X (fun U3 w X=>?_) rfl
     refine hK _ [] _ rfl (dF [0,6,11] [5] (by kernel_rfl) ⟨pm rfl,pm rfl,pm rfl,trivial⟩ ⟨et [(21,_),(25,_)] rfl (fun U J K hK=>?_),trivial⟩)
     obtain⟨N3,G⟩:=aB G
     have hr:=X.rd 2 rfl
     refine cQ 5 kO bM J X hr.1 hr.2.1 N3 rfl (fun x1 x2 x3 w X=>?_) rfl
     refine hK _ [] _ rfl (dF [6,11] [10] (by kernel_rfl) ⟨pm rfl,pm rfl,trivial⟩ ⟨et [(27,_),(30,_)] rfl (fun U J K hK=>?_),trivial⟩)
     obtain⟨N4,G⟩:=aB G
     have hr:=X.rd 1 rfl
     refine cQ 6 kO bM J X hr.1 hr.2.1 N4 rfl (fun x4 x5 x6 w X=>?_) rfl
     refine hK _ [] _ rfl (dF [11] [15] (by kernel_rfl) ⟨pm rfl,trivial⟩ ⟨et [(32,_),(35,_)] rfl (fun U J K hK=>?_),trivial⟩)
     obtain⟨N5,G⟩:=aB G
     have hr:=X.rd 3 rfl
     refine cQ 7 kO bM J X hr.1 hr.2.1 N5 rfl (fun x7 x8 x9 w X=>?_) rfl
     refine hK _ [(16,.slice x1 x2 x3),(17,.slice x4 x5 x6),(18,.slice x7 x8 x9)] _ rfl (gM [16,17,18] (by kernel_rfl) ⟨pm rfl,pm rfl,pm rfl,trivial⟩ ⟨by kernel_rfl,by kernel_rfl⟩ [(0,_),(5,_),(6,_),(7,_),(8,_),(9,_),(11,_),(15,_),(16,_),(17,_)] rfl (fun U J=>?_))
     replace X:=X.drop 3 |>.drop 3 |>.drop 3 |>.pk 7 |>.pk 7 |>.pk 7 |>.pk 3 |>.pk 4 |>.pk 5 |>.pk 7 |>.pk 7
     exact hj1 (H++[C]) G x1 x2 x3 x4 x5 x6 x7 x8 x9 U w (J.sub _ rfl) X
  ·refine et [(29,_)] rfl (fun U J K hK=>?_)
   refine gL (d:=(kI .i64)) (e:=2) (ps:=#[(0,.int .i64 z.f1)]) (cells:=[.int .i64 z.f1]) (xs:=[z.f1]) (fun w=>by kernel_rfl) rfl ⟨[.int .i64 z.f1],_,rfl,rfl,rfl⟩ J X (fun U4 w X=>?_) rfl
   refine hK _ [] _ rfl (dF [0,1,2,3,6,11,12,13] [4,14] (by kernel_rfl) ⟨pm rfl,pt [(11,_)] rfl (fun U J=>eR uX J rfl rfl),pt [(22,_)] rfl (fun U J=>cM mD (X.cell 1 rfl 0 _ rfl) J rfl rfl rfl),pt [(23,_)] rfl fun U J=>jY f5 (aS mD uu2 rfl (J.ev rfl)),pm rfl,pm rfl,pt [(11,_)] rfl (fun U J=>eR jN J rfl rfl),pt [(33,_)] rfl (fun U J=>cM uu2 (X.cell 1 rfl 2 _ rfl) J rfl rfl rfl),trivial⟩ ⟨?_,?_,trivial⟩)
   ·refine et [(24,_)] rfl (fun U J K hK=>?_)
    refine gL (d:=(kI .i64)) (e:=2) (ps:=#[(0,.int .i64 C)]) (cells:=[.int .i64 C]) (xs:=[C]) (fun w=>by kernel_rfl) rfl ⟨[.int .i64 C],_,rfl,rfl,rfl⟩ J X (fun U5 w X=>?_) rfl
    refine hK _ [] _ rfl (dF [0,6,11,12,13] [5,14] (by kernel_rfl) ⟨pm rfl,pm rfl,pm rfl,pt [(11,_)] rfl (fun U J=>eR jN J rfl rfl),pt [(33,_)] rfl (fun U J=>cM uu2 (X.cell 2 rfl 2 _ rfl) J rfl rfl rfl),trivial⟩ ⟨?_,?_,trivial⟩)
    ·refine et [(21,_),(25,_)] rfl (fun U J K hK=>?_)
     obtain⟨N6,G⟩:=aB G
     have hr:=X.rd 0 rfl
     refine cQ 4 kO bM J X hr.1 hr.2.1 N6 rfl (fun l6 l7 l8 w X=>?_) rfl
     refine hK _ [] _ rfl (dF [6,11,12,13] [10,14] (by kernel_rfl) ⟨pm rfl,pm rfl,pt [(11,_)] rfl (fun U J=>eR jN J rfl rfl),pt [(33,_)] rfl (fun U J=>cM uu2 (X.cell 3 rfl 2 _ rfl) J rfl rfl rfl),trivial⟩ ⟨?_,?_,trivial⟩)
     ·refine et [(27,_),(30,_)] rfl (fun U J K hK=>?_)
      obtain⟨N7,G⟩:=aB G
      have hr:=X.rd 2 rfl
      refine cQ 5 kO bM J X hr.1 hr.2.1 N7 rfl (fun y0 y1 y2 w X=>?_) rfl
      refine hK _ [] _ rfl (dF [11,12,13] [14] (by kernel_rfl) ⟨pm rfl,pt [(11,_)] rfl (fun U J=>eR jN J rfl rfl),pt [(33,_)] rfl (fun U J=>cM uu2 (X.cell 4 rfl 2 _ rfl) J rfl rfl rfl),trivial⟩ ⟨et [(34,_)] rfl (fun U J K hK=>?_),trivial⟩)
      refine gL (d:=(kI .i64)) (e:=2) (ps:=#[(0,.int .i64 z.f2)]) (cells:=[.int .i64 z.f2]) (xs:=[z.f2]) (fun w=>by kernel_rfl) rfl ⟨[.int .i64 z.f2],_,rfl,rfl,rfl⟩ J X (fun U6 w X=>?_) rfl
      refine hK _ [] _ rfl (dF [11] [15] (by kernel_rfl) ⟨pm rfl,trivial⟩ ⟨et [(32,_),(35,_)] rfl (fun U J K hK=>?_),trivial⟩)
      obtain⟨N8,G⟩:=aB G
      have hr:=X.rd 0 rfl
      refine cQ 7 kO bM J X hr.1 hr.2.1 N8 rfl (fun y3 y4 y5 w X=>?_) rfl
      refine hK _ [(16,.slice l6 l7 l8),(17,.slice y0 y1 y2),(18,.slice y3 y4 y5)] _ rfl (gM [16,17,18] (by kernel_rfl) ⟨pm rfl,pm rfl,pm rfl,trivial⟩ ⟨by kernel_rfl,by kernel_rfl⟩ [(0,_),(5,_),(6,_),(7,_),(8,_),(9,_),(11,_),(15,_),(16,_),(17,_)] rfl (fun U J=>?_))
      replace X:=X.drop 1 |>.drop 3 |>.drop 3 |>.pk 7 |>.pk 7 |>.pk 7 |>.pk 3 |>.pk 4 |>.pk 5 |>.pk 7 |>.pk 7
      exact hj1 (H++[C]) G l6 l7 l8 y0 y1 y2 y3 y4 y5 U w (J.sub _ rfl) X
     ·refine et [(34,_)] rfl (fun U J K hK=>?_)
      refine gL (d:=(kI .i64)) (e:=2) (ps:=#[(0,.int .i64 z.f2)]) (cells:=[.int .i64 z.f2]) (xs:=[z.f2]) (fun w=>by kernel_rfl) rfl ⟨[.int .i64 z.f2],_,rfl,rfl,rfl⟩ J X (fun U7 w X=>?_) rfl
      refine hK _ [] _ rfl (dF [6,11] [10] (by kernel_rfl) ⟨pm rfl,pm rfl,trivial⟩ ⟨et [(27,_),(30,_)] rfl (fun U J K hK=>?_),trivial⟩)
      obtain⟨N9,G⟩:=aB G
      have hr:=X.rd 3 rfl
      refine cQ 6 kO bM J X hr.1 hr.2.1 N9 rfl (fun y6 y7 y8 w X=>?_) rfl
      refine hK _ [] _ rfl (dF [11] [15] (by kernel_rfl) ⟨pm rfl,trivial⟩ ⟨et [(32,_),(35,_)] rfl (fun U J K hK=>?_),trivial⟩)
      obtain⟨O0,G⟩:=aB G
      have hr:=X.rd 1 rfl
      refine cQ 7 kO bM J X hr.1 hr.2.1 O0 rfl (fun y9 z0 z1 w X=>?_) rfl
      refine hK _ [(16,.slice l6 l7 l8),(17,.slice y6 y7 y8),(18,.slice y9 z0 z1)] _ rfl (gM [16,17,18] (by kernel_rfl) ⟨pm rfl,pm rfl,pm rfl,trivial⟩ ⟨by kernel_rfl,by kernel_rfl⟩ [(0,_),(5,_),(6,_),(7,_),(8,_),(9,_),(11,_),(15,_),(16,_),(17,_)] rfl (fun U J=>?_))
      replace X:=X.drop 2 |>.drop 3 |>.drop 3 |>.pk 7 |>.pk 7 |>.pk 7 |>.pk 3 |>.pk 4 |>.pk 5 |>.pk 7 |>.pk 7
      exact hj1 (H++[C]) G l6 l7 l8 y6 y7 y8 y9 z0 z1 U w (J.sub _ rfl) X
    ·refine et [(34,_)] rfl (fun U J K hK=>?_)
     refine gL (d:=(kI .i64)) (e:=2) (ps:=#[(0,.int .i64 z.f2)]) (cells:=[.int .i64 z.f2]) (xs:=[z.f2]) (fun w=>by kernel_rfl) rfl ⟨[.int .i64 z.f2],_,rfl,rfl,rfl⟩ J X (fun U8 w X=>?_) rfl
     refine hK _ [] _ rfl (dF [0,6,11] [5] (by kernel_rfl) ⟨pm rfl,pm rfl,pm rfl,trivial⟩ ⟨et [(21,_),(25,_)] rfl (fun U J K hK=>?_),trivial⟩)
     obtain⟨O1,G⟩:=aB G
     have hr:=X.rd 1 rfl
     refine cQ 5 kO bM J X hr.1 hr.2.1 O1 rfl (fun z2 z3 z4 w X=>?_) rfl
     refine hK _ [] _ rfl (dF [6,11] [10] (by kernel_rfl) ⟨pm rfl,pm rfl,trivial⟩ ⟨et [(27,_),(30,_)] rfl (fun U J K hK=>?_),trivial⟩)
     obtain⟨O2,G⟩:=aB G
     have hr:=X.rd 3 rfl
     refine cQ 6 kO bM J X hr.1 hr.2.1 O2 rfl (fun z5 z6 z7 w X=>?_) rfl
     refine hK _ [] _ rfl (dF [11] [15] (by kernel_rfl) ⟨pm rfl,trivial⟩ ⟨et [(32,_),(35,_)] rfl (fun U J K hK=>?_),trivial⟩)
     obtain⟨O3,G⟩:=aB G
     have hr:=X.rd 2 rfl
     refine cQ 7 kO bM J X hr.1 hr.2.1 O3 rfl (fun z8 z9 A3 w X=>?_) rfl
     refine hK _ [(16,.slice z2 z3 z4),(17,.slice z5 z6 z7),(18,.slice z8 z9 A3)] _ rfl (gM [16,17,18] (by kernel_rfl) ⟨pm rfl,pm rfl,pm rfl,trivial⟩ ⟨by kernel_rfl,by kernel_rfl⟩ [(0,_),(5,_),(6,_),(7,_),(8,_),(9,_),(11,_),(15,_),(16,_),(17,_)] rfl (fun U J=>?_))
     replace X:=X.drop 3 |>.drop 3 |>.drop 3 |>.pk 7 |>.pk 7 |>.pk 7 |>.pk 3 |>.pk 4 |>.pk 5 |>.pk 7 |>.pk 7
     exact hj1 (H++[C]) G z2 z3 z4 z5 z6 z7 z8 z9 A3 U w (J.sub _ rfl) X
   ·refine et [(34,_)] rfl (fun U J K hK=>?_)
    refine gL (d:=(kI .i64)) (e:=2) (ps:=#[(0,.int .i64 z.f2)]) (cells:=[.int .i64 z.f2]) (xs:=[z.f2]) (fun w=>by kernel_rfl) rfl ⟨[.int .i64 z.f2],_,rfl,rfl,rfl⟩ J X (fun U9 w X=>?_) rfl
    refine hK _ [] _ rfl (dF [0,1,2,3,6,11] [4] (by kernel_rfl) ⟨pm rfl,pt [(11,_)] rfl (fun U J=>eR uX J rfl rfl),pt [(22,_)] rfl (fun U J=>cM mD (X.cell 2 rfl 0 _ rfl) J rfl rfl rfl),pt [(23,_)] rfl fun U J=>jY f5 (aS mD uu2 rfl (J.ev rfl)),pm rfl,pm rfl,trivial⟩ ⟨et [(24,_)] rfl (fun U J K hK=>?_),trivial⟩)
    refine gL (d:=(kI .i64)) (e:=2) (ps:=#[(0,.int .i64 C)]) (cells:=[.int .i64 C]) (xs:=[C]) (fun w=>by kernel_rfl) rfl ⟨[.int .i64 C],_,rfl,rfl,rfl⟩ J X (fun V0 w X=>?_) rfl
    refine hK _ [] _ rfl (dF [0,6,11] [5] (by kernel_rfl) ⟨pm rfl,pm rfl,pm rfl,trivial⟩ ⟨et [(21,_),(25,_)] rfl (fun U J K hK=>?_),trivial⟩)
    obtain⟨O4,G⟩:=aB G
    have hr:=X.rd 0 rfl
    refine cQ 5 kO bM J X hr.1 hr.2.1 O4 rfl (fun A4 A5 A6 w X=>?_) rfl
    refine hK _ [] _ rfl (dF [6,11] [10] (by kernel_rfl) ⟨pm rfl,pm rfl,trivial⟩ ⟨et [(27,_),(30,_)] rfl (fun U J K hK=>?_),trivial⟩)
    obtain⟨O5,G⟩:=aB G
    have hr:=X.rd 3 rfl
    refine cQ 6 kO bM J X hr.1 hr.2.1 O5 rfl (fun A7 A8 A9 w X=>?_) rfl
    refine hK _ [] _ rfl (dF [11] [15] (by kernel_rfl) ⟨pm rfl,trivial⟩ ⟨et [(32,_),(35,_)] rfl (fun U J K hK=>?_),trivial⟩)
    obtain⟨O6,G⟩:=aB G
    have hr:=X.rd 3 rfl
    refine cQ 7 kO bM J X hr.1 hr.2.1 O6 rfl (fun B1 B2 B3 w X=>?_) rfl
    refine hK _ [(16,.slice A4 A5 A6),(17,.slice A7 A8 A9),(18,.slice B1 B2 B3)] _ rfl (gM [16,17,18] (by kernel_rfl) ⟨pm rfl,pm rfl,pm rfl,trivial⟩ ⟨by kernel_rfl,by kernel_rfl⟩ [(0,_),(5,_),(6,_),(7,_),(8,_),(9,_),(11,_),(15,_),(16,_),(17,_)] rfl (fun U J=>?_))
    replace X:=X.drop 3 |>.drop 3 |>.drop 3 |>.pk 7 |>.pk 7 |>.pk 7 |>.pk 3 |>.pk 4 |>.pk 5 |>.pk 7 |>.pk 7
    exact hj1 (H++[C]) G A4 A5 A6 A7 A8 A9 B1 B2 B3 U w (J.sub _ rfl) X
  ·refine et [(34,_)] rfl (fun U J K hK=>?_)
   refine gL (d:=(kI .i64)) (e:=2) (ps:=#[(0,.int .i64 z.f2)]) (cells:=[.int .i64 z.f2]) (xs:=[z.f2]) (fun w=>by kernel_rfl) rfl ⟨[.int .i64 z.f2],_,rfl,rfl,rfl⟩ J X (fun V1 w X=>?_) rfl
   refine hK _ [] _ rfl (dF [0,1,2,3,6,7,8,11] [4,9] (by kernel_rfl) ⟨pm rfl,pt [(11,_)] rfl (fun U J=>eR uX J rfl rfl),pt [(22,_)] rfl (fun U J=>cM mD (X.cell 1 rfl 0 _ rfl) J rfl rfl rfl),pt [(23,_)] rfl fun U J=>jY f5 (aS mD uu2 rfl (J.ev rfl)),pm rfl,pt [(11,_)] rfl (fun U J=>eR tX J rfl rfl),pt [(28,_)] rfl (fun U J=>cM uu3 (X.cell 1 rfl 1 _ rfl) J rfl rfl rfl),pm rfl,trivial⟩ ⟨?_,?_,trivial⟩)
   ·refine et [(24,_)] rfl (fun U J K hK=>?_)
    refine gL (d:=(kI .i64)) (e:=2) (ps:=#[(0,.int .i64 C)]) (cells:=[.int .i64 C]) (xs:=[C]) (fun w=>by kernel_rfl) rfl ⟨[.int .i64 C],_,rfl,rfl,rfl⟩ J X (fun V2 w X=>?_) rfl
    refine hK _ [] _ rfl (dF [0,6,7,8,11] [5,9] (by kernel_rfl) ⟨pm rfl,pm rfl,pt [(11,_)] rfl (fun U J=>eR tX J rfl rfl),pt [(28,_)] rfl (fun U J=>cM uu3 (X.cell 2 rfl 1 _ rfl) J rfl rfl rfl),pm rfl,trivial⟩ ⟨?_,?_,trivial⟩)
    ·refine et [(21,_),(25,_)] rfl (fun U J K hK=>?_)
     obtain⟨O7,G⟩:=aB G
     have hr:=X.rd 0 rfl
     refine cQ 4 kO bM J X hr.1 hr.2.1 O7 rfl (fun B4 B5 B6 w X=>?_) rfl
     refine hK _ [] _ rfl (dF [6,7,8,11] [9] (by kernel_rfl) ⟨pm rfl,pt [(11,_)] rfl (fun U J=>eR tX J rfl rfl),pt [(28,_)] rfl (fun U J=>cM uu3 (X.cell 3 rfl 1 _ rfl) J rfl rfl rfl),pm rfl,trivial⟩ ⟨et [(29,_)] rfl (fun U J K hK=>?_),trivial⟩)
     refine gL (d:=(kI .i64)) (e:=2) (ps:=#[(0,.int .i64 z.f1)]) (cells:=[.int .i64 z.f1]) (xs:=[z.f1]) (fun w=>by kernel_rfl) rfl ⟨[.int .i64 z.f1],_,rfl,rfl,rfl⟩ J X (fun V3 w X=>?_) rfl
     refine hK _ [] _ rfl (dF [6,11] [10] (by kernel_rfl) ⟨pm rfl,pm rfl,trivial⟩ ⟨et [(27,_),(30,_)] rfl (fun U J K hK=>?_),trivial⟩)
     obtain⟨O8,G⟩:=aB G
     have hr:=X.rd 0 rfl
     refine cQ 6 kO bM J X hr.1 hr.2.1 O8 rfl (fun B7 B8 B9 w X=>?_) rfl
     refine hK _ [] _ rfl (dF [11] [15] (by kernel_rfl) ⟨pm rfl,trivial⟩ ⟨et [(32,_),(35,_)] rfl (fun U J K hK=>?_),trivial⟩)
     obtain⟨O9,G⟩:=aB G
     have hr:=X.rd 4 rfl
     refine cQ 7 kO bM J X hr.1 hr.2.1 O9 rfl (fun C0 C1 C2 w X=>?_) rfl
     refine hK _ [(16,.slice B4 B5 B6),(17,.slice B7 B8 B9),(18,.slice C0 C1 C2)] _ rfl (gM [16,17,18] (by kernel_rfl) ⟨pm rfl,pm rfl,pm rfl,trivial⟩ ⟨by kernel_rfl,by kernel_rfl⟩ [(0,_),(5,_),(6,_),(7,_),(8,_),(9,_),(11,_),(15,_),(16,_),(17,_)] rfl (fun U J=>?_))
     replace X:=X.drop 2 |>.drop 3 |>.drop 3 |>.pk 7 |>.pk 7 |>.pk 7 |>.pk 3 |>.pk 4 |>.pk 5 |>.pk 7 |>.pk 7
     exact hj1 (H++[C]) G B4 B5 B6 B7 B8 B9 C0 C1 C2 U w (J.sub _ rfl) X
    ·refine et [(29,_)] rfl (fun U J K hK=>?_)
     refine gL (d:=(kI .i64)) (e:=2) (ps:=#[(0,.int .i64 z.f1)]) (cells:=[.int .i64 z.f1]) (xs:=[z.f1]) (fun w=>by kernel_rfl) rfl ⟨[.int .i64 z.f1],_,rfl,rfl,rfl⟩ J X (fun V4 w X=>?_) rfl
     refine hK _ [] _ rfl (dF [0,6,11] [5] (by kernel_rfl) ⟨pm rfl,pm rfl,pm rfl,trivial⟩ ⟨et [(21,_),(25,_)] rfl (fun U J K hK=>?_),trivial⟩)
     obtain⟨P0,G⟩:=aB G
     have hr:=X.rd 1 rfl
     refine cQ 5 kO bM J X hr.1 hr.2.1 P0 rfl (fun C3 C4 C5 w X=>?_) rfl
     refine hK _ [] _ rfl (dF [6,11] [10] (by kernel_rfl) ⟨pm rfl,pm rfl,trivial⟩ ⟨et [(27,_),(30,_)] rfl (fun U J K hK=>?_),trivial⟩)
     obtain⟨P1,G⟩:=aB G
     have hr:=X.rd 1 rfl
     refine cQ 6 kO bM J X hr.1 hr.2.1 P1 rfl (fun C6 C7 C8 w X=>?_) rfl
     refine hK _ [] _ rfl (dF [11] [15] (by kernel_rfl) ⟨pm rfl,trivial⟩ ⟨et [(32,_),(35,_)] rfl (fun U J K hK=>?_),trivial⟩)
     obtain⟨P2,G⟩:=aB G
     have hr:=X.rd 4 rfl
     refine cQ 7 kO bM J X hr.1 hr.2.1 P2 rfl (fun C9 D0 D1 w X=>?_) rfl
     refine hK _ [(16,.slice C3 C4 C5),(17,.slice C6 C7 C8),(18,.slice C9 D0 D1)] _ rfl (gM [16,17,18] (by kernel_rfl) ⟨pm rfl,pm rfl,pm rfl,trivial⟩ ⟨by kernel_rfl,by kernel_rfl⟩ [(0,_),(5,_),(6,_),(7,_),(8,_),(9,_),(11,_),(15,_),(16,_),(17,_)] rfl (fun U J=>?_))
     replace X:=X.drop 3 |>.drop 3 |>.drop 3 |>.pk 7 |>.pk 7 |>.pk 7 |>.pk 3 |>.pk 4 |>.pk 5 |>.pk 7 |>.pk 7
     exact hj1 (H++[C]) G C3 C4 C5 C6 C7 C8 C9 D0 D1 U w (J.sub _ rfl) X
   ·refine et [(29,_)] rfl (fun U J K hK=>?_)
    refine gL (d:=(kI .i64)) (e:=2) (ps:=#[(0,.int .i64 z.f1)]) (cells:=[.int .i64 z.f1]) (xs:=[z.f1]) (fun w=>by kernel_rfl) rfl ⟨[.int .i64 z.f1],_,rfl,rfl,rfl⟩ J X (fun V5 w X=>?_) rfl
    refine hK _ [] _ rfl (dF [0,1,2,3,6,11] [4] (by kernel_rfl) ⟨pm rfl,pt [(11,_)] rfl (fun U J=>eR uX J rfl rfl),pt [(22,_)] rfl (fun U J=>cM mD (X.cell 2 rfl 0 _ rfl) J rfl rfl rfl),pt [(23,_)] rfl fun U J=>jY f5 (aS mD uu2 rfl (J.ev rfl)),pm rfl,pm rfl,trivial⟩ ⟨et [(24,_)] rfl (fun U J K hK=>?_),trivial⟩)
    refine gL (d:=(kI .i64)) (e:=2) (ps:=#[(0,.int .i64 C)]) (cells:=[.int .i64 C]) (xs:=[C]) (fun w=>by kernel_rfl) rfl ⟨[.int .i64 C],_,rfl,rfl,rfl⟩ J X (fun V6 w X=>?_) rfl
    refine hK _ [] _ rfl (dF [0,6,11] [5] (by kernel_rfl) ⟨pm rfl,pm rfl,pm rfl,trivial⟩ ⟨et [(21,_),(25,_)] rfl (fun U J K hK=>?_),trivial⟩)
    obtain⟨P3,G⟩:=aB G
    have hr:=X.rd 0 rfl
    refine cQ 5 kO bM J X hr.1 hr.2.1 P3 rfl (fun D2 D3 D4 w X=>?_) rfl
    refine hK _ [] _ rfl (dF [6,11] [10] (by kernel_rfl) ⟨pm rfl,pm rfl,trivial⟩ ⟨et [(27,_),(30,_)] rfl (fun U J K hK=>?_),trivial⟩)
    obtain⟨P4,G⟩:=aB G
    have hr:=X.rd 2 rfl
    refine cQ 6 kO bM J X hr.1 hr.2.1 P4 rfl (fun D5 D6 D7 w X=>?_) rfl
    refine hK _ [] _ rfl (dF [11] [15] (by kernel_rfl) ⟨pm rfl,trivial⟩ ⟨et [(32,_),(35,_)] rfl (fun U J K hK=>?_),trivial⟩)
    obtain⟨P5,G⟩:=aB G
    have hr:=X.rd 4 rfl
    refine cQ 7 kO bM J X hr.1 hr.2.1 P5 rfl (fun D8 D9 E0 w X=>?_) rfl
    refine hK _ [(16,.slice D2 D3 D4),(17,.slice D5 D6 D7),(18,.slice D8 D9 E0)] _ rfl (gM [16,17,18] (by kernel_rfl) ⟨pm rfl,pm rfl,pm rfl,trivial⟩ ⟨by kernel_rfl,by kernel_rfl⟩ [(0,_),(5,_),(6,_),(7,_),(8,_),(9,_),(11,_),(15,_),(16,_),(17,_)] rfl (fun U J=>?_))
    replace X:=X.drop 3 |>.drop 3 |>.drop 3 |>.pk 7 |>.pk 7 |>.pk 7 |>.pk 3 |>.pk 4 |>.pk 5 |>.pk 7 |>.pk 7
    exact hj1 (H++[C]) G D2 D3 D4 D5 D6 D7 D8 D9 E0 U w (J.sub _ rfl) X
 cases G
 exact wp_exit (J5 H a5 a6 a7 a8 (J8 _ rfl) e0 e1 e2 e3 e4 e5 e6 e7 e8 I S Y a2 a3 a4 U w (J.sub _ rfl) X)
end
noncomputable section
set_option linter.unusedSimpArgs false
def nN (a0:S47) (a1:S47):Option (Bool) :=
  if (!(a0.f3==a1.f3))=true then (some (Op.bytesLess a0.f3 a1.f3)) else (if (a0.f2 != a1.f2)=true then (some (decide (a0.f2<a1.f2))) else (some (decide (a0.f0<a1.f0))))
def iZ (a0:S47) (a1:S47):Option (Int) :=
  (nN a0 a1).bind fun h=>(if h=true then (some (-1)) else ((nN a1 a0).bind fun z=>(if z=true then (some 1) else (some 0))))
def fF (a0:(List S47)):Option ((List S47)) :=
  pC (a0).isEmpty (some []) (chk (([]:List S47).length+a0.length≤140737488355328 / 48) (some a0))
def fW (h:(List S47)):Option ((List S47)) :=
  some h
def fI (h:(List S47)):Option ((List S47)) :=
  fW h
def aZ (a1:Int) (a2:Int) (a3:Int) (z:(List S47)) (h:Int):Option (((List S47)×Int)⊕(((List S47)))) :=
  if (decide (h<a3))=true then ((at_ z (IntKind.i64.wrap (a2+h))).bind fun C=>((at_ z (IntKind.i64.wrap (a1+h))).bind fun G=>((at_ (z.set (IntKind.i64.wrap (a1+h)).toNat C) (IntKind.i64.wrap (a2+h))).bind fun H=>(some (.inl ((z.set (IntKind.i64.wrap (a1+h)).toNat C).set (IntKind.i64.wrap (a2+h)).toNat G,IntKind.i64.wrap (h+1))))))) else (some (.inr (z)))
def bT (a0:(List S47)) (a1:Int) (a2:Int) (a3:Int):Option ((List S47)) :=
  (loop (fun s=>aZ a1 a2 a3 s.1 s.2) (a0,0)).bind fun t=>fI t
def eX (a2:Int) (z:(List S47)) (h:Int):Option ((List S47)) :=
  (bT z (IntKind.i64.wrap (a2 - h)) a2 h).bind fun C=>(some C)
def eL (a2:Int) (h:(List S47)) (z:Int):Option ((List S47)) :=
  eX a2 h z
def dL (h:(List S47)) (z:Int) (C:Int):Option (((List S47)×Int×Int)⊕(((List S47)×Int))) :=
  some (.inl (h,z,C))
def bV (a2:Int) (C:(List S47)) (h:Int) (z:Int):Option (((List S47)×Int×Int)⊕(((List S47)×Int))) :=
  if (h != z)=true then (if (decide (z<h))=true then ((bT C (IntKind.i64.wrap (a2 - h)) a2 z).bind fun G=>(dL G (IntKind.i64.wrap (h - z)) z)) else ((bT C (IntKind.i64.wrap (a2 - h)) (IntKind.i64.wrap ((IntKind.i64.wrap (a2+z)) - h)) h).bind fun H=>(dL H h (IntKind.i64.wrap (z - h))))) else (some (.inr (C,h)))
def eF (a0:(List S47)) (a1:Int) (a2:Int) (a3:Int):Option ((List S47)) :=
  (loop (fun s=>bV a2 s.1 s.2.1 s.2.2) (a0,IntKind.i64.wrap (a2 - a1),IntKind.i64.wrap (a3 - a2))).bind fun t=>eL a2 t.1 t.2
def eO (h:(List S47)):Option ((List S47)) :=
  some h
def dU (h:(List S47)):Option ((List S47)) :=
  eO h
def aR (G:Int) (z:(List S47)) (h:Int):Option (((List S47)×Int)⊕(((List S47)))) :=
  if (decide (h<IntKind.i64.wrap (G - 1)))=true then ((at_ z (IntKind.i64.wrap (h+1))).bind fun C=>((at_ z h).bind fun H=>((at_ (z.set h.toNat C) (IntKind.i64.wrap (h+1))).bind fun I=>(some (.inl ((z.set h.toNat C).set (IntKind.i64.wrap (h+1)).toNat H,IntKind.i64.wrap (h+1))))))) else (some (.inr (z)))
def eN (a0:(List S47)) (a1:Int) (h:Int):Option ((List S47)) :=
  (loop (fun s=>aR h s.1 s.2) (a0,a1)).bind fun t=>dU t
def dX (a0:(List S47)) (a1:Int) (h:Int):Option ((List S47)) :=
  eN a0 a1 h
def cW (h:Int) (z:Int):Option ((Int×Int)⊕((Int))) :=
  some (.inl (h,z))
def bC (a0:(List S47)) (a1:Int) (h:Int) (z:Int):Option ((Int×Int)⊕((Int))) :=
  if (decide (h<z))=true then ((at_ a0 (IntKind.i64.wrap (bS .u64 (IntKind.u64.wrap (IntKind.i64.wrap (h+z))) 1))).bind fun C=>((at_ a0 a1).bind fun G=>((iZ C G).bind fun H=>(if (decide (H<0))=true then (cW (IntKind.i64.wrap ((IntKind.i64.wrap (bS .u64 (IntKind.u64.wrap (IntKind.i64.wrap (h+z))) 1))+1)) z) else (cW h (IntKind.i64.wrap (bS .u64 (IntKind.u64.wrap (IntKind.i64.wrap (h+z))) 1))))))) else (some (.inr (h)))
def eJ (h:(List S47)):Option ((List S47)) :=
  some h
def dW (h:(List S47)):Option ((List S47)) :=
  eJ h
def aT (G:Int) (z:(List S47)) (h:Int):Option (((List S47)×Int)⊕(((List S47)))) :=
  if (decide (G<h))=true then ((at_ z (IntKind.i64.wrap (h - 1))).bind fun C=>((at_ z h).bind fun H=>((at_ (z.set h.toNat C) (IntKind.i64.wrap (h - 1))).bind fun I=>(some (.inl ((z.set h.toNat C).set (IntKind.i64.wrap (h - 1)).toNat H,IntKind.i64.wrap (h - 1))))))) else (some (.inr (z)))
def eP (a0:(List S47)) (a2:Int) (h:Int):Option ((List S47)) :=
  (loop (fun s=>aT h s.1 s.2) (a0,a2)).bind fun t=>dW t
def dY (a0:(List S47)) (a2:Int) (h:Int):Option ((List S47)) :=
  eP a0 a2 h
def cV (h:Int) (z:Int):Option ((Int×Int)⊕((Int))) :=
  some (.inl (h,z))
def bE (a0:(List S47)) (a2:Int) (h:Int) (z:Int):Option ((Int×Int)⊕((Int))) :=
  if (decide (h<z))=true then ((at_ a0 a2).bind fun C=>((at_ a0 (IntKind.i64.wrap (bS .u64 (IntKind.u64.wrap (IntKind.i64.wrap (h+z))) 1))).bind fun G=>((iZ C G).bind fun H=>(if (!(decide (H<0)))=true then (cV (IntKind.i64.wrap ((IntKind.i64.wrap (bS .u64 (IntKind.u64.wrap (IntKind.i64.wrap (h+z))) 1))+1)) z) else (cV h (IntKind.i64.wrap (bS .u64 (IntKind.u64.wrap (IntKind.i64.wrap (h+z))) 1))))))) else (some (.inr (h)))
def cB (rec_:((List S47)→Int→Int→Int→Option ((List S47)))) (a1:Int) (a2:Int) (a3:Int) (z:Int) (h:(List S47)) (C:Bool):Option ((List S47)) :=
  if C=true then ((rec_ h (IntKind.i64.wrap (bS .u64 (IntKind.u64.wrap (IntKind.i64.wrap (a1+a3))) 1)) (IntKind.i64.wrap ((IntKind.i64.wrap ((IntKind.i64.wrap (bS .u64 (IntKind.u64.wrap (IntKind.i64.wrap (a1+a3))) 1))+a2)) - z)) a3).bind fun G=>(some G)) else (some h)
def bQ (rec_:((List S47)→Int→Int→Int→Option ((List S47)))) (a1:Int) (a2:Int) (a3:Int) (h:Int) (z:(List S47)):Option ((List S47)) :=
  if (decide (IntKind.i64.wrap (bS .u64 (IntKind.u64.wrap (IntKind.i64.wrap (a1+a3))) 1)<IntKind.i64.wrap ((IntKind.i64.wrap ((IntKind.i64.wrap (bS .u64 (IntKind.u64.wrap (IntKind.i64.wrap (a1+a3))) 1))+a2)) - h)))=true then (cB rec_ a1 a2 a3 h z (decide (IntKind.i64.wrap ((IntKind.i64.wrap ((IntKind.i64.wrap (bS .u64 (IntKind.u64.wrap (IntKind.i64.wrap (a1+a3))) 1))+a2)) - h)<a3))) else (cB rec_ a1 a2 a3 h z false)
def cD (rec_:((List S47)→Int→Int→Int→Option ((List S47)))) (a1:Int) (a2:Int) (a3:Int) (h:Int) (z:(List S47)) (C:Bool):Option ((List S47)) :=
  if C=true then ((rec_ z a1 h (IntKind.i64.wrap (bS .u64 (IntKind.u64.wrap (IntKind.i64.wrap (a1+a3))) 1))).bind fun G=>(bQ rec_ a1 a2 a3 h G)) else (bQ rec_ a1 a2 a3 h z)
def bP (rec_:((List S47)→Int→Int→Int→Option ((List S47)))) (a1:Int) (a2:Int) (a3:Int) (h:Int) (z:(List S47)):Option ((List S47)) :=
  if (decide (a1<h))=true then (cD rec_ a1 a2 a3 h z (decide (h<IntKind.i64.wrap (bS .u64 (IntKind.u64.wrap (IntKind.i64.wrap (a1+a3))) 1)))) else (cD rec_ a1 a2 a3 h z false)
def cA (rec_:((List S47)→Int→Int→Int→Option ((List S47)))) (a0:(List S47)) (a1:Int) (a2:Int) (a3:Int) (h:Int) (z:Bool):Option ((List S47)) :=
  if z=true then ((eF a0 h a2 (IntKind.i64.wrap ((IntKind.i64.wrap ((IntKind.i64.wrap (bS .u64 (IntKind.u64.wrap (IntKind.i64.wrap (a1+a3))) 1))+a2)) - h))).bind fun C=>(bP rec_ a1 a2 a3 h C)) else (bP rec_ a1 a2 a3 h a0)
def cR (rec_:((List S47)→Int→Int→Int→Option ((List S47)))) (a0:(List S47)) (a1:Int) (a2:Int) (a3:Int) (h:Int):Option ((List S47)) :=
  if (decide (h<a2))=true then (cA rec_ a0 a1 a2 a3 h (decide (a2<IntKind.i64.wrap ((IntKind.i64.wrap ((IntKind.i64.wrap (bS .u64 (IntKind.u64.wrap (IntKind.i64.wrap (a1+a3))) 1))+a2)) - h)))) else (cA rec_ a0 a1 a2 a3 h false)
def dV (rec_:((List S47)→Int→Int→Int→Option ((List S47)))) (a0:(List S47)) (a1:Int) (a2:Int) (a3:Int) (h:Int):Option ((List S47)) :=
  cR rec_ a0 a1 a2 a3 h
def cU (h:Int) (z:Int):Option ((Int×Int)⊕((Int))) :=
  some (.inl (h,z))
def bF (a0:(List S47)) (a1:Int) (a2:Int) (a3:Int) (h:Int) (z:Int):Option ((Int×Int)⊕((Int))) :=
  if (decide (h<z))=true then ((at_ a0 (IntKind.i64.wrap ((IntKind.i64.wrap ((IntKind.i64.wrap ((IntKind.i64.wrap (bS .u64 (IntKind.u64.wrap (IntKind.i64.wrap (a1+a3))) 1))+a2)) - 1)) - (IntKind.i64.wrap (bS .u64 (IntKind.u64.wrap (IntKind.i64.wrap (h+z))) 1))))).bind fun C=>((at_ a0 (IntKind.i64.wrap (bS .u64 (IntKind.u64.wrap (IntKind.i64.wrap (h+z))) 1))).bind fun G=>((iZ C G).bind fun H=>(if (!(decide (H<0)))=true then (cU (IntKind.i64.wrap ((IntKind.i64.wrap (bS .u64 (IntKind.u64.wrap (IntKind.i64.wrap (h+z))) 1))+1)) z) else (cU h (IntKind.i64.wrap (bS .u64 (IntKind.u64.wrap (IntKind.i64.wrap (h+z))) 1))))))) else (some (.inr (h)))
def cE (rec_:((List S47)→Int→Int→Int→Option ((List S47)))) (a0:(List S47)) (a1:Int) (a2:Int) (a3:Int) (h:Int) (z:Int):Option ((List S47)) :=
  (loop (fun s=>bF a0 a1 a2 a3 s.1 s.2) (h,z)).bind fun t=>dV rec_ a0 a1 a2 a3 t
def aU (rec_:(List S47)→Int→Int→Int→Option ((List S47))) (a0:(List S47)) (a1:Int) (a2:Int) (a3:Int):Option ((List S47)) :=
  if ((IntKind.i64.wrap (a2 - a1))==1)=true then ((loop (fun s=>bC a0 a1 s.1 s.2) (a2,a3)).bind fun t=>dX a0 a1 t) else (if ((IntKind.i64.wrap (a3 - a2))==1)=true then ((loop (fun s=>bE a0 a2 s.1 s.2) (a1,a2)).bind fun t=>dY a0 a2 t) else (if (decide (IntKind.i64.wrap (bS .u64 (IntKind.u64.wrap (IntKind.i64.wrap (a1+a3))) 1)<a2))=true then (cE rec_ a0 a1 a2 a3 (IntKind.i64.wrap ((IntKind.i64.wrap ((IntKind.i64.wrap (bS .u64 (IntKind.u64.wrap (IntKind.i64.wrap (a1+a3))) 1))+a2)) - a3)) (IntKind.i64.wrap (bS .u64 (IntKind.u64.wrap (IntKind.i64.wrap (a1+a3))) 1))) else (cE rec_ a0 a1 a2 a3 a1 a2)))
def aE:Nat→(List S47)→Int→Int→Int→Option ((List S47))
  | 0=>fun _ _ _ _=>none
  | k+1=>aU (aE k)
def dP:(List S47)→Int→Int→Int→Option ((List S47)):=aE 64
def fD (h:(List S47)):Option ((List S47)) :=
  some h
def eS (h:(List S47)):Option ((List S47)) :=
  fD h
def dE (h:Int) (z:(List S47)):Option (((List S47)×Int)⊕(((List S47)))) :=
  some (.inl (z,IntKind.i64.wrap (h+1)))
def cP (h:Int) (z:(List S47)):Option (((List S47)×Int)⊕(((List S47)))) :=
  dE h z
def cF (z:(List S47)) (h:Int) (G:Bool):Option (((List S47)×Int)⊕(((List S47)))) :=
  if G=true then ((at_ z (IntKind.i64.wrap (h - 1))).bind fun C=>((at_ z h).bind fun H=>((at_ (z.set h.toNat C) (IntKind.i64.wrap (h - 1))).bind fun I=>(some (.inl ((z.set h.toNat C).set (IntKind.i64.wrap (h - 1)).toNat H,IntKind.i64.wrap (h - 1))))))) else (some (.inr (z)))
def aQ (a1:Int) (z:(List S47)) (h:Int):Option (((List S47)×Int)⊕(((List S47)))) :=
  if (decide (a1<h))=true then ((at_ z h).bind fun C=>((at_ z (IntKind.i64.wrap (h - 1))).bind fun G=>((iZ C G).bind fun H=>(cF z h (decide (H<0)))))) else (cF z h false)
def aG (a1:Int) (a2:Int) (z:(List S47)) (h:Int):Option (((List S47)×Int)⊕(((List S47)))) :=
  if (decide (h<a2))=true then ((loop (fun s=>aQ a1 s.1 s.2) (z,h)).bind fun t=>cP h t) else (some (.inr (z)))
def bZ (a0:(List S47)) (a1:Int) (a2:Int):Option ((List S47)) :=
  (loop (fun s=>aG a1 a2 s.1 s.2) (a0,IntKind.i64.wrap (a1+1))).bind fun t=>eS t
def gS (h:(List S47)):Option ((List S47)) :=
  some h
def gK (h:(List S47)):Option ((List S47)) :=
  gS h
def dM (h:Int) (z:(List S47)):Option (((List S47)×Int)⊕(((List S47)))) :=
  some (.inl (z,IntKind.i64.wrap (h * 2)))
def eV (a1:Int) (h:Int) (C:(List S47)) (z:Int):Option (((List S47)×Int)⊕(((List S47)))) :=
  if (decide (IntKind.i64.wrap (z+h)<a1))=true then ((dP C z (IntKind.i64.wrap (z+h)) a1).bind fun G=>(dM h G)) else (dM h C)
def eQ (a1:Int) (h:Int) (z:(List S47)) (C:Int):Option (((List S47)×Int)⊕(((List S47)))) :=
  eV a1 h z C
def bX (a1:Int) (C:Int) (G:(List S47)) (z:Int) (h:Int):Option (((List S47)×Int×Int)⊕(((List S47)×Int))) :=
  if (decide (h≤a1))=true then ((dP G z (IntKind.i64.wrap (z+C)) h).bind fun H=>(some (.inl (H,h,IntKind.i64.wrap (h+(IntKind.i64.wrap (2 * C))))))) else (some (.inr (G,z)))
def bU (a1:Int) (z:(List S47)) (h:Int):Option (((List S47)×Int)⊕(((List S47)))) :=
  if (decide (h<a1))=true then ((loop (fun s=>bX a1 h s.1 s.2.1 s.2.2) (z,0,IntKind.i64.wrap (2 * h))).bind fun t=>eQ a1 h t.1 t.2) else (some (.inr (z)))
def eW (a1:Int) (h:(List S47)) (z:Int):Option ((List S47)) :=
  (bZ h z a1).bind fun C=>((loop (fun s=>bU a1 s.1 s.2) (C,20)).bind fun t=>gK t)
def eI (a1:Int) (h:(List S47)) (z:Int):Option ((List S47)) :=
  eW a1 h z
def bW (a1:Int) (z:(List S47)) (C:Int) (h:Int):Option (((List S47)×Int×Int)⊕(((List S47)×Int))) :=
  if (decide (h≤a1))=true then ((bZ z C h).bind fun G=>(some (.inl (G,h,IntKind.i64.wrap (h+20))))) else (some (.inr (z,C)))
def eH (a0:(List S47)) (a1:Int):Option ((List S47)) :=
  (loop (fun s=>bW a1 s.1 s.2.1 s.2.2) (a0,0,20)).bind fun t=>eI a1 t.1 t.2
def dB (a0:(List S47)):Option ((List S47)) :=
  (eH a0 (a0.length:Int)).bind fun h=>(some h)
def wV (a0:(List S47)):Option ((List S47)) :=
  (fF a0).bind fun h=>((dB h).bind fun z=>(some z))
end
end Go.Proofs.YtnefioccdkmegaaGreatDoor.M
