/- Texts of the claim, joined: what it uses of Mel, Des. -/
import Derived.Test.YtnefioccdkmegaaGreatDoorZe
namespace Go.Proofs.YtnefioccdkmegaaGreatDoor.M
open Go Go.RowKit Go.Proofs.YtnefioccdkmegaaGreatDoor.E
set_option linter.unusedVariables false
set_option maxRecDepth 100000
set_option maxHeartbeats 4000000
set_option linter.unusedSimpArgs false
section
variable {r:World} {L:List HP} {w:World} {Z:Nat→Prop} {wz:World}
theorem aKc {a0 a1 A0 n0 c0 A1 n1 c1 y} (G:yG a0 a1=some y) (X:SH r (own (kI .u8) 5 A0 n0 c0 a0::zone Z wz::L) w) (ha1:Imm Z wz k47 A1 n1 c1 a1) (hG1:Imm Z wz (kI .u32) (some ⟨1,0,none⟩) 16 16 cW) :
  Ret Tryz.prog 54 #[.slice A0 n0 c0,.slice A1 n1 c1] w fun v w'=>∃ (Z':Nat→Prop) (wz':World) (B0:Option Addr) (m0:Nat) (d0:Nat),v=.slice B0 m0 d0∧Sub Z wz Z' wz'∧SH r (own (kI .u8) 5 B0 m0 d0 y::zone Z' wz'::L) w':=by
 refine enter Tryz.func54 rfl Tryz.ntmps54 [(0,_),(1,_)] rfl (by simp) ?_
 intro U J Qf hQ hQn
 unfold yG at G
 refine nz 1 J rfl fun U J=>nz 3 J rfl fun U J=>nz 1 J rfl fun U J=>nz 1 J rfl fun U J=>wp_seq_k fun M2 A8=>ws fun M3 A9=>xk 1 J rfl fun U J=>aU eG (X.imm 1 ha1 rfl).2.1 J (fun U J=>?_) rfl
 refine x_m J rfl fun U J=>wn (A9 _ _ ?_)
 refine aA fun m3 B1=>?_
 have hb1:∀j1 j2 j3 j4 j5,vQ a0 j1 j2 j3 j4 j5=some y→∀j6 j7 j8 j9 k0 k1 k2 k3 k4 k5 k6 k7 k8 k9 l0 U w,FR 72 [] U [(0,.slice A0 n0 c0),(5,.slice j6 j7 j8),(6,.slice j9 k0 k1),(7,.slice k2 k3 k4),(8,.slice k5 k6 k7),(9,.slice k8 k9 l0)]→SH r (own (kI .u8) 5 A0 n0 c0 a0::own (kI .i64) 2 j6 j7 j8 j1::own (kI .i64) 2 j9 k0 k1 j2::own (kI .i64) 2 k2 k3 k4 j3::own kS 9 k5 k6 k7 j4::own kF 45 k8 k9 l0 j5::zone Z wz::L) w→m3 U w:=by
  intro j1 j2 j3 j4 j5 G j6 j7 j8 j9 k0 k1 k2 k3 k4 k5 k6 k7 k8 k9 l0 U w J X
  unfold vQ at G
  refine B1 _ _ (A8 _ _ ?_)
  refine nz 1 J rfl fun U J=>wp_seq_k fun M4 B2=>ws fun M5 B3=>xk 1 J rfl fun U J=>?_
  obtain⟨c2,B4,G⟩:=bnd G
  refine x_c aPw J rfl (qS B4 X (RdL.own 1 rfl (X.dropN 0)) :) fun v U w hR J=>?_
  obtain⟨c3,c4,c5,rfl,X⟩:=hR
  refine x_m J rfl fun U J=>?_
  obtain⟨c6,B5,G⟩:=bnd G
  refine x_c aPw J rfl (qS B5 X (RdL.own 3 rfl (X.dropN 0)) :) fun v U w hR J=>?_
  obtain⟨c7,c8,c9,rfl,X⟩:=hR
  refine x_m J rfl fun U J=>?_
  obtain⟨d1,B6,G⟩:=bnd G
  refine x_c aPw J rfl (qS B6 X (RdL.own 5 rfl (X.dropN 0)) :) fun v U w hR J=>?_
  obtain⟨d2,d3,d4,rfl,X⟩:=hR
  refine x_m J rfl fun U J=>?_
  obtain⟨d5,B7,G⟩:=bnd G
  refine x_c bCs J rfl (aE2 B7 X (RdL.own 7 rfl (X.dropN 0)) :) fun v U w hR J=>?_
  obtain⟨d6,d7,d8,rfl,X⟩:=hR
  refine x_m J rfl fun U J=>?_
  obtain⟨d9,B8,G⟩:=bnd G
  refine x_c bB3 J rfl (aFe B8 X (RdL.own 9 rfl (X.dropN 0)) :) fun v U w hR J=>?_
  obtain⟨e0,e1,e2,rfl,X⟩:=hR
  replace X:=X.pk 11 |>.pk 5
  obtain⟨M6,M7,X,B9,m4⟩:=SH.freeze (n:=c4) (c:=c5) (A:=c3) X
  replace X:=X.pk 0 |>.pk 4
  obtain⟨M8,M9,X,C0,l1⟩:=SH.freeze (n:=c8) (c:=c9) (A:=c7) X
  have C1:=Imm.sub B9 l1
  replace X:=X.pk 0 |>.pk 3
  obtain⟨N0,N1,X,C2,e3⟩:=SH.freeze (n:=d3) (c:=d4) (A:=d2) X
  have C3:=Imm.sub C1 e3
  have C4:=Imm.sub C0 e3
  replace X:=X.pk 0 |>.pk 2
  obtain⟨N2,N3,X,C5,Y⟩:=SH.freeze (n:=d7) (c:=d8) (A:=d6) X
  have C6:=Imm.sub C3 Y
  have C7:=Imm.sub C4 Y
  have C8:=Imm.sub C2 Y
  replace X:=X.pk 0 |>.pk 1
  obtain⟨B,C,X,C9,D⟩:=SH.freeze (n:=e1) (c:=e2) (A:=e0) X
  have D0:=Imm.sub C6 D
  have D1:=Imm.sub C7 D
  have D2:=Imm.sub C8 D
  have D3:=Imm.sub C5 D
  refine iM (d:=(kM B C (kI .u8))) (e:=32) (ps:=#[(0,.slice c3 c4 c5),(1,.slice c7 c8 c9),(2,.slice d2 d3 d4),(3,.slice d6 d7 d8),(4,.slice e0 e1 e2)]) (cells:=[.slice c3 c4 c5,.slice c7 c8 c9,.slice d2 d3 d4,.slice d6 d7 d8,.slice e0 e1 e2]) (xs:=[c2,c6,d1,d5,d9]) (fun w=>by kernel_rfl) rfl ⟨[.slice c3 c4 c5],_,rfl,⟨_,_,_,rfl,D0⟩,⟨[.slice c7 c8 c9],_,rfl,⟨_,_,_,rfl,D1⟩,⟨[.slice d2 d3 d4],_,rfl,⟨_,_,_,rfl,D2⟩,⟨[.slice d6 d7 d8],_,rfl,⟨_,_,_,rfl,D3⟩,⟨[.slice e0 e1 e2],_,rfl,⟨_,_,_,rfl,C9⟩,rfl⟩⟩⟩⟩⟩ J X (fun m5 U w X J=>?_) rfl
  refine aU aV2 (X.rd 0 rfl).2.1 J (fun U J=>?_) rfl
  refine x_m J rfl fun U J=>wn (B3 _ _ ?_)
  refine aA fun m6 D4=>?_
  have hb2:∀l2,vY a0 l2=some y→∀l3 l4 l5 U w,FR 72 [] U [(0,.slice A0 n0 c0),(12,.slice l3 l4 l5)]→SH r (own (kI .u8) 5 A0 n0 c0 a0::own (kI .u8) 5 l3 l4 l5 l2::zone B C::L) w→m6 U w:=by
   intro l2 G l3 l4 l5 U w J X
   unfold vY at G
   refine D4 _ _ (B2 _ _ ?_)
   refine ws fun N4 D5=>xk 2 J rfl fun U J=>?_
   obtain⟨N5,D6,G⟩:=bnd G
   refine x_c bCk J rfl (aMm D6 X 1 rfl (RdL.own 0 rfl (X.dropN 1)) (Imm.sub hG1 (Sub.trans (Sub.trans (Sub.trans (Sub.trans m4 l1) e3) Y) D)) :) fun v U w hR J=>?_
   obtain⟨D7,D8,D9,rfl,X⟩:=hR
   refine x_m J rfl fun U J=>wn (D5 _ _ ?_)
   replace X:=X.drop 1 |>.pk 1 |>.pk 1
   cases G
   refine wp_ret (hQ _ _ ?_)
   exact lv Tryz.results54 J rfl ⟨B,C,D7,D8,D9,rfl,(Sub.trans (Sub.trans (Sub.trans (Sub.trans m4 l1) e3) Y) D),X⟩
  obtain⟨E0,E1,G⟩:=bnd G
  have E2:∀a2,(a2)=E0→∀e4 e5 e6 U w,FR 72 [] U [(0,.slice A0 n0 c0),(12,.slice e4 e5 e6)]→SH r (own (kI .u8) 5 A0 n0 c0 a0::own (kI .u8) 5 e4 e5 e6 a2::zone B C::L) w→m6 U w:=by
   intro a2 ht e4 e5 e6 U w J X
   subst ht
   replace G:rZ a0 a2=some y:=G
   unfold rZ at G
   exact hb2 a2 G e4 e5 e6 U w (J.sub _ rfl) X
  replace X:=(SH.nil_own (d:=(kI .u8)) (e:=5) X).drop 4 |>.drop 4 |>.drop 4 |>.drop 4 |>.drop 4 |>.pk 2 |>.pk 2 |>.pk 2 |>.pk 3
  refine aD E1 (fun s U w=>∃e7 e8 e9,FR 72 [] U [(0,.slice A0 n0 c0),(12,.slice e7 e8 e9),(58,.slice (some ⟨m5,0,none⟩) 5 5),(59,.int .i64 ([c2,c6,d1,d5,d9].length:Int)),(60,.int .i64 s.2)]∧SH r (own (kI .u8) 5 A0 n0 c0 a0::own (kI .u8) 5 e7 e8 e9 s.1::own (kM B C (kI .u8)) 32 (some ⟨m5,0,none⟩) 5 5 [c2,c6,d1,d5,d9]::zone B C::L) w) ⟨none,0,0,J.sub _ rfl,X⟩ ?_
  intro N6 E3 E4 G E5 E6 U w hLab
  obtain⟨m7,E7⟩:=E3
  replace G:lQ c2 c6 d1 d5 d9 m7 E7=some E4:=G
  unfold lQ at G
  try dsimp only at hLab
  obtain⟨e7,e8,e9,J,X⟩:=hLab
  refine nz 1 J rfl fun U J=>wp_seq_k fun N7 E8=>bA J G rfl (fun E9 G=>?_) fun E9 G=>?_
  ·refine wp_skip (E8 _ _ ?_)
   refine wp_seq_k fun N8 F0=>aA fun N9 F1=>ws fun O0 F2=>?_
   obtain⟨O1,m8,G⟩:=bnd G
   refine fG aV2 aDb (X.rd 2 rfl) m8 J (fun U J=>?_) rfl
   obtain⟨cs,hV,F3⟩:=el (X.rd 2 rfl) m8
   obtain⟨O2,O3,O4,rfl,F5⟩:=hV
   refine aH fE (F3 0 _ rfl) J (fun U J=>?_) rfl
   refine x_m J rfl fun U J=>wn (F2 _ _ ?_)
   refine aC (xk 2 J rfl fun U J=>?_)
   refine aR6 fE uu5 uu9 (X.imm 3 F5 rfl) J (fun U J=>?_) rfl
   replace X:=X.pk 1
   obtain⟨O5,F6,G⟩:=bnd G
   refine x_c aYg J rfl (aBf F6 X :) fun v U w hR J=>?_
   obtain⟨F7,F8,F9,rfl,X⟩:=hR
   refine x_m J rfl fun U J=>wpList_nil (F1 _ _ ?_)
   refine F0 _ _ (aC ?_)
   refine x_l G J rfl fun O6 _ U J G=>x_m J rfl fun U J=>wpList_nil ?_
   replace X:=X.pk 3 |>.pk 3 |>.pk 2 |>.pk 3
   cases G
   exact⟨_,E5 _ rfl,F7,F8,F9,J.sub _ rfl,X⟩
  replace X:=X.drop 2
  cases G
  exact wp_exit (E2 m7 (E6 _ rfl) e7 e8 e9 U w (J.sub _ rfl) X)
 obtain⟨G0,G1,G⟩:=bnd G
 have G2:∀a3 a4 a5 a6 a7,(a3,a4,a5,a6,a7)=G0→∀f5 f6 f7 f8 f9 g0 g1 g2 g3 g4 g5 g6 g7 g8 g9 U w,FR 72 [] U [(0,.slice A0 n0 c0),(5,.slice f5 f6 f7),(6,.slice f8 f9 g0),(7,.slice g1 g2 g3),(8,.slice g4 g5 g6),(9,.slice g7 g8 g9)]→SH r (own (kI .u8) 5 A0 n0 c0 a0::own (kI .i64) 2 f5 f6 f7 a3::own (kI .i64) 2 f8 f9 g0 a4::own (kI .i64) 2 g1 g2 g3 a5::own kS 9 g4 g5 g6 a6::own kF 45 g7 g8 g9 a7::zone Z wz::L) w→m3 U w:=by
  intro a3 a4 a5 a6 a7 ht f5 f6 f7 f8 f9 g0 g1 g2 g3 g4 g5 g6 g7 g8 g9 U w J X
  subst ht
  replace G:sF a0 a3 a4 a5 a6 a7=some y:=G
  unfold sF at G
  exact hb1 a3 a4 a5 a6 a7 G f5 f6 f7 f8 f9 g0 g1 g2 g3 g4 g5 g6 g7 g8 g9 U w (J.sub _ rfl) X
 replace X:=(SH.nil_own (d:=kF) (e:=45) (SH.nil_own (d:=kS) (e:=9) (SH.nil_own (d:=(kI .i64)) (e:=2) (SH.nil_own (d:=(kI .i64)) (e:=2) (SH.nil_own (d:=(kI .i64)) (e:=2) X))))).pk 6 |>.pk 1 |>.pk 2 |>.pk 3 |>.pk 4 |>.pk 5 |>.pk 6
 refine aD G1 (fun s U w=>∃a8 a9 b1 b2 b3 b4 b5 b6 b7 g i k l m o,FR 72 [] U [(0,.slice A0 n0 c0),(5,.slice a8 a9 b1),(6,.slice b2 b3 b4),(7,.slice b5 b6 b7),(8,.slice g i k),(9,.slice l m o),(15,.slice A1 n1 c1),(16,.int .i64 (a1.length:Int)),(17,.int .i64 s.2.2.2.2.2)]∧SH r (own (kI .u8) 5 A0 n0 c0 a0::own (kI .i64) 2 a8 a9 b1 s.1::own (kI .i64) 2 b2 b3 b4 s.2.1::own (kI .i64) 2 b5 b6 b7 s.2.2.1::own kS 9 g i k s.2.2.2.1::own kF 45 l m o s.2.2.2.2.1::zone Z wz::L) w) ⟨none,0,0,none,0,0,none,0,0,none,0,0,none,0,0,J.sub _ rfl,X⟩ ?_
 intro O7 G3 l6 G G4 G5 U w hLab
 obtain⟨f,p,q,t,x,b8⟩:=G3
 replace G:lZ a1 f p q t x b8=some l6:=G
 unfold lZ at G
 try dsimp only at hLab
 obtain⟨a8,a9,b1,b2,b3,b4,b5,b6,b7,g,i,k,l,m,o,J,X⟩:=hLab
 refine nz 1 J rfl fun U J=>wp_seq_k fun O8 G6=>bA J G rfl (fun G7 G=>?_) fun G7 G=>?_
 ·refine wp_skip (G6 _ _ ?_)
  refine wp_seq_k fun O9 G8=>aA fun G9 H0=>?_
  have hb3:∀l7 l8 l9 m1 m2,vM b8 l7 l8 l9 m1 m2=some l6→∀h0 h1 h2 h3 h4 h5 h6 h7 h8 h9 i0 i1 i2 i3 i4 U w,FR 72 [] U [(0,.slice A0 n0 c0),(5,.slice h0 h1 h2),(6,.slice h3 h4 h5),(7,.slice h6 h7 h8),(8,.slice h9 i0 i1),(9,.slice i2 i3 i4),(15,.slice A1 n1 c1),(16,.int .i64 (a1.length:Int)),(17,.int .i64 b8)]→SH r (own (kI .u8) 5 A0 n0 c0 a0::own (kI .i64) 2 h0 h1 h2 l7::own (kI .i64) 2 h3 h4 h5 l8::own (kI .i64) 2 h6 h7 h8 l9::own kS 9 h9 i0 i1 m1::own kF 45 i2 i3 i4 m2::zone Z wz::L) w→G9 U w:=by
   intro l7 l8 l9 m1 m2 G h0 h1 h2 h3 h4 h5 h6 h7 h8 h9 i0 i1 i2 i3 i4 U w J X
   unfold vM at G
   refine H0 _ _ (G8 _ _ ?_)
   refine aC (x_l G J rfl fun P0 _ U J G=>?_)
   refine x_m J rfl fun U J=>wpList_nil ?_
   cases G
   exact⟨_,G4 _ rfl,h0,h1,h2,h3,h4,h5,h6,h7,h8,h9,i0,i1,i2,i3,i4,J.sub _ rfl,X⟩
  refine ws fun P1 H1=>?_
  obtain⟨a,m9,G⟩:=bnd G
  refine fG eG cH (X.imm 6 ha1 rfl) m9 J (fun U J=>?_) rfl
  obtain⟨cs,hV,H2⟩:=el (X.imm 6 ha1 rfl) m9
  obtain rfl:=hV
  refine lH (cs:=[.int .u64 a.f0,.int .i64 a.f1,.int .i64 a.f2,str a.f3,.float .f64 a.f4]) lL cH (fun j u h=>by rw [eU]; exact H2 _ _ h) J (fun U J=>?_) rfl
  refine gZ (cs:=[.int .u64 0,.int .i64 0,.int .i64 0,str [],.float .f64 0]) aJ0 J X (fun z U w X J=>?_) rfl
  refine dH 0 cH J X rfl (fun  U w X J=>?_) rfl
  refine wn (H1 _ _ ?_)
  refine wp_seq_k fun H3 H4=>?_
  have hj1:∀E,vL p q t x b8 a E=some l6→∀F H I M N O P Q R U w,FR 72 [] U [(0,.slice A0 n0 c0),(5,.slice F H I),(6,.slice M N O),(7,.slice P Q R),(8,.slice g i k),(9,.slice l m o),(11,(pP z)),(15,.slice A1 n1 c1),(16,.int .i64 (a1.length:Int)),(17,.int .i64 b8)]→SH r (blk z 47 [.int .u64 a.f0,.int .i64 a.f1,.int .i64 a.f2,str a.f3,.float .f64 a.f4]::own (kI .u8) 5 A0 n0 c0 a0::own (kI .i64) 2 F H I E::own (kI .i64) 2 M N O (p++[a.f1])::own (kI .i64) 2 P Q R (q++[a.f2])::own kS 9 g i k t::own kF 45 l m o x::zone Z wz::L) w→H3 U w:=by
   intro E G F H I M N O P Q R U w J X
   unfold vL at G
   refine H4 _ _ (cP [0,0,2,6,15,0,0,64,192,511,1023,2047] [3,4,8,9] rfl J X (by kernel_rfl) (by kernel_rfl) (by kernel_rfl) (by kernel_rfl) fun w X=>?_)
   refine⟨[(0,.slice g i k),(1,.pointer (some ⟨z,3,none⟩)),(2,str a.f3),(5,.slice l m o),(6,.pointer (some ⟨z,4,none⟩)),(7,.float .f64 a.f4)],?_⟩
   refine dF [0,1,2,5,6,7] [3,8] (by kernel_rfl) ⟨pm rfl,pt [(11,_)] rfl (fun U J=>eR sL J rfl rfl),pt [(38,_)] rfl (fun U J=>cM uu9 (X.cell 0 rfl 3 _ rfl) J rfl rfl rfl),pm rfl,pt [(11,_)] rfl (fun U J=>eR aFr J rfl rfl),pt [(43,_)] rfl (fun U J=>cM aKm (X.cell 0 rfl 4 _ rfl) J rfl rfl rfl),trivial⟩ ⟨?_,?_,trivial⟩
   ·refine et [(39,_)] rfl (fun U J K hK=>?_)
    refine gJ (d:=kS) (e:=9) (ps:=#[(0,str a.f3)]) (cells:=[str a.f3]) (xs:=[a.f3]) (fun w=>by kernel_rfl) rfl ⟨[str a.f3],_,rfl,rfl,rfl⟩ J X (fun P2 w X=>?_) rfl
    refine hK _ [] _ rfl (dF [0,5,6,7] [4,8] (by kernel_rfl) ⟨pm rfl,pm rfl,pt [(11,_)] rfl (fun U J=>eR aFr J rfl rfl),pt [(43,_)] rfl (fun U J=>cM aKm (X.cell 1 rfl 4 _ rfl) J rfl rfl rfl),trivial⟩ ⟨?_,?_,trivial⟩)
    ·refine et [(37,_),(40,_)] rfl (fun U J K hK=>?_)
     obtain⟨H5,G⟩:=aB G
     have hr:=X.rd 0 rfl
     refine cQ 6 aJx lG J X hr.1 hr.2.1 H5 rfl (fun n2 n3 n4 w X=>?_) rfl
     refine hK _ [] _ rfl (dF [5,6,7] [8] (by kernel_rfl) ⟨pm rfl,pt [(11,_)] rfl (fun U J=>eR aFr J rfl rfl),pt [(43,_)] rfl (fun U J=>cM aKm (X.cell 2 rfl 4 _ rfl) J rfl rfl rfl),trivial⟩ ⟨et [(44,_)] rfl (fun U J K hK=>?_),trivial⟩)
     refine gJ (d:=kF) (e:=45) (ps:=#[(0,.float .f64 a.f4)]) (cells:=[.float .f64 a.f4]) (xs:=[a.f4]) (fun w=>by kernel_rfl) rfl ⟨[.float .f64 a.f4],_,rfl,rfl,rfl⟩ J X (fun P3 w X=>?_) rfl
     refine hK _ [] _ rfl (dF [5] [9] (by kernel_rfl) ⟨pm rfl,trivial⟩ ⟨et [(42,_),(45,_)] rfl (fun U J K hK=>?_),trivial⟩)
     obtain⟨H6,G⟩:=aB G
     have hr:=X.rd 0 rfl
     refine cQ 8 aM3 aCj J X hr.1 hr.2.1 H6 rfl (fun n5 n6 n7 w X=>?_) rfl
     refine hK _ [(10,.slice n2 n3 n4),(11,.slice n5 n6 n7)] _ rfl (gK [10,11] (by kernel_rfl) ⟨pm rfl,pm rfl,trivial⟩ ⟨by kernel_rfl,by kernel_rfl⟩ [(0,_),(5,_),(6,_),(7,_),(8,_),(9,_),(15,_),(16,_),(17,_)] rfl (fun U J=>?_))
     replace X:=X.drop 1 |>.drop 2 |>.drop 2 |>.pk 6 |>.pk 1 |>.pk 2 |>.pk 6 |>.pk 6 |>.pk 6 |>.pk 6
     exact hb3 E (p++[a.f1]) (q++[a.f2]) (t++[a.f3]) (x++[a.f4]) G F H I M N O P Q R n2 n3 n4 n5 n6 n7 U w (J.sub _ rfl) X
    ·refine et [(44,_)] rfl (fun U J K hK=>?_)
     refine gJ (d:=kF) (e:=45) (ps:=#[(0,.float .f64 a.f4)]) (cells:=[.float .f64 a.f4]) (xs:=[a.f4]) (fun w=>by kernel_rfl) rfl ⟨[.float .f64 a.f4],_,rfl,rfl,rfl⟩ J X (fun P4 w X=>?_) rfl
     refine hK _ [] _ rfl (dF [0,5] [4] (by kernel_rfl) ⟨pm rfl,pm rfl,trivial⟩ ⟨et [(37,_),(40,_)] rfl (fun U J K hK=>?_),trivial⟩)
     obtain⟨H7,G⟩:=aB G
     have hr:=X.rd 1 rfl
     refine cQ 7 aJx lG J X hr.1 hr.2.1 H7 rfl (fun n8 n9 o0 w X=>?_) rfl
     refine hK _ [] _ rfl (dF [5] [9] (by kernel_rfl) ⟨pm rfl,trivial⟩ ⟨et [(42,_),(45,_)] rfl (fun U J K hK=>?_),trivial⟩)
     obtain⟨H8,G⟩:=aB G
     have hr:=X.rd 1 rfl
     refine cQ 8 aM3 aCj J X hr.1 hr.2.1 H8 rfl (fun o1 o2 o3 w X=>?_) rfl
     refine hK _ [(10,.slice n8 n9 o0),(11,.slice o1 o2 o3)] _ rfl (gK [10,11] (by kernel_rfl) ⟨pm rfl,pm rfl,trivial⟩ ⟨by kernel_rfl,by kernel_rfl⟩ [(0,_),(5,_),(6,_),(7,_),(8,_),(9,_),(15,_),(16,_),(17,_)] rfl (fun U J=>?_))
     replace X:=X.drop 2 |>.drop 2 |>.drop 2 |>.pk 6 |>.pk 1 |>.pk 2 |>.pk 6 |>.pk 6 |>.pk 6 |>.pk 6
     exact hb3 E (p++[a.f1]) (q++[a.f2]) (t++[a.f3]) (x++[a.f4]) G F H I M N O P Q R n8 n9 o0 o1 o2 o3 U w (J.sub _ rfl) X
   ·refine et [(44,_)] rfl (fun U J K hK=>?_)
    refine gJ (d:=kF) (e:=45) (ps:=#[(0,.float .f64 a.f4)]) (cells:=[.float .f64 a.f4]) (xs:=[a.f4]) (fun w=>by kernel_rfl) rfl ⟨[.float .f64 a.f4],_,rfl,rfl,rfl⟩ J X (fun P5 w X=>?_) rfl
    refine hK _ [] _ rfl (dF [0,1,2,5] [3] (by kernel_rfl) ⟨pm rfl,pt [(11,_)] rfl (fun U J=>eR sL J rfl rfl),pt [(38,_)] rfl (fun U J=>cM uu9 (X.cell 1 rfl 3 _ rfl) J rfl rfl rfl),pm rfl,trivial⟩ ⟨et [(39,_)] rfl (fun U J K hK=>?_),trivial⟩)
    refine gJ (d:=kS) (e:=9) (ps:=#[(0,str a.f3)]) (cells:=[str a.f3]) (xs:=[a.f3]) (fun w=>by kernel_rfl) rfl ⟨[str a.f3],_,rfl,rfl,rfl⟩ J X (fun P6 w X=>?_) rfl
    refine hK _ [] _ rfl (dF [0,5] [4] (by kernel_rfl) ⟨pm rfl,pm rfl,trivial⟩ ⟨et [(37,_),(40,_)] rfl (fun U J K hK=>?_),trivial⟩)
    obtain⟨H9,G⟩:=aB G
    have hr:=X.rd 0 rfl
    refine cQ 7 aJx lG J X hr.1 hr.2.1 H9 rfl (fun o4 o5 o6 w X=>?_) rfl
    refine hK _ [] _ rfl (dF [5] [9] (by kernel_rfl) ⟨pm rfl,trivial⟩ ⟨et [(42,_),(45,_)] rfl (fun U J K hK=>?_),trivial⟩)
    obtain⟨I0,G⟩:=aB G
    have hr:=X.rd 2 rfl
    refine cQ 8 aM3 aCj J X hr.1 hr.2.1 I0 rfl (fun o7 o8 o9 w X=>?_) rfl
    refine hK _ [(10,.slice o4 o5 o6),(11,.slice o7 o8 o9)] _ rfl (gK [10,11] (by kernel_rfl) ⟨pm rfl,pm rfl,trivial⟩ ⟨by kernel_rfl,by kernel_rfl⟩ [(0,_),(5,_),(6,_),(7,_),(8,_),(9,_),(15,_),(16,_),(17,_)] rfl (fun U J=>?_))
    replace X:=X.drop 2 |>.drop 2 |>.drop 2 |>.pk 6 |>.pk 1 |>.pk 2 |>.pk 6 |>.pk 6 |>.pk 6 |>.pk 6
    exact hb3 E (p++[a.f1]) (q++[a.f2]) (t++[a.f3]) (x++[a.f4]) G F H I M N O P Q R o4 o5 o6 o7 o8 o9 U w (J.sub _ rfl) X
  refine cP [0,0,2,6,14,31,0,0,128,384,1023,0,0,4096,12288,32767,65535,131071,262143] [4,5,9,10,14,15] rfl J X (by kernel_rfl) (by kernel_rfl) (by kernel_rfl) (by kernel_rfl) fun w X=>?_
  obtain⟨b,b9,G⟩:=nO G
  refine⟨[(0,.slice a8 a9 b1),(1,(pP z)),(2,.int .u64 a.f0),(3,.int .i64 b),(6,.slice b2 b3 b4),(7,.pointer (some ⟨z,1,none⟩)),(8,.int .i64 a.f1),(11,.slice b5 b6 b7),(12,.pointer (some ⟨z,2,none⟩)),(13,.int .i64 a.f2)],?_⟩
  refine dF [0,1,2,3,6,7,8,11,12,13] [4,9,14] (by kernel_rfl) ⟨pm rfl,pt [(11,_)] rfl (fun U J=>eR uD J rfl rfl),pt [(22,_)] rfl (fun U J=>cM mE (X.cell 0 rfl 0 _ rfl) J rfl rfl rfl),pt [(23,_)] rfl fun U J=>kQ b9 (aY mE uu2 rfl (J.ev rfl)),pm rfl,pt [(11,_)] rfl (fun U J=>eR rL J rfl rfl),pt [(28,_)] rfl (fun U J=>cM uu3 (X.cell 0 rfl 1 _ rfl) J rfl rfl rfl),pm rfl,pt [(11,_)] rfl (fun U J=>eR iR J rfl rfl),pt [(33,_)] rfl (fun U J=>cM uu2 (X.cell 0 rfl 2 _ rfl) J rfl rfl rfl),trivial⟩ ⟨?_,?_,?_,trivial⟩
  ·refine et [(24,_)] rfl (fun U J K hK=>?_)
   refine gJ (d:=(kI .i64)) (e:=2) (ps:=#[(0,.int .i64 b)]) (cells:=[.int .i64 b]) (xs:=[b]) (fun w=>by kernel_rfl) rfl ⟨[.int .i64 b],_,rfl,rfl,rfl⟩ J X (fun P7 w X=>?_) rfl
   refine hK _ [] _ rfl (dF [0,6,7,8,11,12,13] [5,9,14] (by kernel_rfl) ⟨pm rfl,pm rfl,pt [(11,_)] rfl (fun U J=>eR rL J rfl rfl),pt [(28,_)] rfl (fun U J=>cM uu3 (X.cell 1 rfl 1 _ rfl) J rfl rfl rfl),pm rfl,pt [(11,_)] rfl (fun U J=>eR iR J rfl rfl),pt [(33,_)] rfl (fun U J=>cM uu2 (X.cell 1 rfl 2 _ rfl) J rfl rfl rfl),trivial⟩ ⟨?_,?_,?_,trivial⟩)
   ·refine et [(21,_),(25,_)] rfl (fun U J K hK=>?_)
    obtain⟨I1,G⟩:=aB G
    have hr:=X.rd 0 rfl
    refine cQ 3 kX bM J X hr.1 hr.2.1 I1 rfl (fun S T W w X=>?_) rfl
    refine hK _ [] _ rfl (dF [6,7,8,11,12,13] [9,14] (by kernel_rfl) ⟨pm rfl,pt [(11,_)] rfl (fun U J=>eR rL J rfl rfl),pt [(28,_)] rfl (fun U J=>cM uu3 (X.cell 2 rfl 1 _ rfl) J rfl rfl rfl),pm rfl,pt [(11,_)] rfl (fun U J=>eR iR J rfl rfl),pt [(33,_)] rfl (fun U J=>cM uu2 (X.cell 2 rfl 2 _ rfl) J rfl rfl rfl),trivial⟩ ⟨?_,?_,trivial⟩)
    ·refine et [(29,_)] rfl (fun U J K hK=>?_)
     refine gJ (d:=(kI .i64)) (e:=2) (ps:=#[(0,.int .i64 a.f1)]) (cells:=[.int .i64 a.f1]) (xs:=[a.f1]) (fun w=>by kernel_rfl) rfl ⟨[.int .i64 a.f1],_,rfl,rfl,rfl⟩ J X (fun P8 w X=>?_) rfl
     refine hK _ [] _ rfl (dF [6,11,12,13] [10,14] (by kernel_rfl) ⟨pm rfl,pm rfl,pt [(11,_)] rfl (fun U J=>eR iR J rfl rfl),pt [(33,_)] rfl (fun U J=>cM uu2 (X.cell 3 rfl 2 _ rfl) J rfl rfl rfl),trivial⟩ ⟨?_,?_,trivial⟩)
     ·refine et [(27,_),(30,_)] rfl (fun U J K hK=>?_)
      obtain⟨I2,G⟩:=aB G
      have hr:=X.rd 0 rfl
      refine cQ 5 kX bM J X hr.1 hr.2.1 I2 rfl (fun p0 p1 p2 w X=>?_) rfl
      refine hK _ [] _ rfl (dF [11,12,13] [14] (by kernel_rfl) ⟨pm rfl,pt [(11,_)] rfl (fun U J=>eR iR J rfl rfl),pt [(33,_)] rfl (fun U J=>cM uu2 (X.cell 4 rfl 2 _ rfl) J rfl rfl rfl),trivial⟩ ⟨et [(34,_)] rfl (fun U J K hK=>?_),trivial⟩)
      refine gJ (d:=(kI .i64)) (e:=2) (ps:=#[(0,.int .i64 a.f2)]) (cells:=[.int .i64 a.f2]) (xs:=[a.f2]) (fun w=>by kernel_rfl) rfl ⟨[.int .i64 a.f2],_,rfl,rfl,rfl⟩ J X (fun P9 w X=>?_) rfl
      refine hK _ [] _ rfl (dF [11] [15] (by kernel_rfl) ⟨pm rfl,trivial⟩ ⟨et [(32,_),(35,_)] rfl (fun U J K hK=>?_),trivial⟩)
      obtain⟨I3,G⟩:=aB G
      have hr:=X.rd 0 rfl
      refine cQ 7 kX bM J X hr.1 hr.2.1 I3 rfl (fun p3 p4 p5 w X=>?_) rfl
      refine hK _ [(16,.slice S T W),(17,.slice p0 p1 p2),(18,.slice p3 p4 p5)] _ rfl (gK [16,17,18] (by kernel_rfl) ⟨pm rfl,pm rfl,pm rfl,trivial⟩ ⟨by kernel_rfl,by kernel_rfl⟩ [(0,_),(5,_),(6,_),(7,_),(8,_),(9,_),(11,_),(15,_),(16,_),(17,_)] rfl (fun U J=>?_))
      replace X:=X.drop 1 |>.drop 2 |>.drop 3 |>.pk 7 |>.pk 7 |>.pk 7 |>.pk 3 |>.pk 4 |>.pk 5 |>.pk 7 |>.pk 7
      exact hj1 (f++[b]) G S T W p0 p1 p2 p3 p4 p5 U w (J.sub _ rfl) X
     ·refine et [(34,_)] rfl (fun U J K hK=>?_)
      refine gJ (d:=(kI .i64)) (e:=2) (ps:=#[(0,.int .i64 a.f2)]) (cells:=[.int .i64 a.f2]) (xs:=[a.f2]) (fun w=>by kernel_rfl) rfl ⟨[.int .i64 a.f2],_,rfl,rfl,rfl⟩ J X (fun Q0 w X=>?_) rfl
      refine hK _ [] _ rfl (dF [6,11] [10] (by kernel_rfl) ⟨pm rfl,pm rfl,trivial⟩ ⟨et [(27,_),(30,_)] rfl (fun U J K hK=>?_),trivial⟩)
      obtain⟨I4,G⟩:=aB G
      have hr:=X.rd 1 rfl
      refine cQ 6 kX bM J X hr.1 hr.2.1 I4 rfl (fun p6 p7 p8 w X=>?_) rfl
      refine hK _ [] _ rfl (dF [11] [15] (by kernel_rfl) ⟨pm rfl,trivial⟩ ⟨et [(32,_),(35,_)] rfl (fun U J K hK=>?_),trivial⟩)
      obtain⟨I5,G⟩:=aB G
      have hr:=X.rd 1 rfl
      refine cQ 7 kX bM J X hr.1 hr.2.1 I5 rfl (fun p9 q0 q1 w X=>?_) rfl
      refine hK _ [(16,.slice S T W),(17,.slice p6 p7 p8),(18,.slice p9 q0 q1)] _ rfl (gK [16,17,18] (by kernel_rfl) ⟨pm rfl,pm rfl,pm rfl,trivial⟩ ⟨by kernel_rfl,by kernel_rfl⟩ [(0,_),(5,_),(6,_),(7,_),(8,_),(9,_),(11,_),(15,_),(16,_),(17,_)] rfl (fun U J=>?_))
      replace X:=X.drop 2 |>.drop 2 |>.drop 3 |>.pk 7 |>.pk 7 |>.pk 7 |>.pk 3 |>.pk 4 |>.pk 5 |>.pk 7 |>.pk 7
      exact hj1 (f++[b]) G S T W p6 p7 p8 p9 q0 q1 U w (J.sub _ rfl) X
    ·refine et [(34,_)] rfl (fun U J K hK=>?_)
     refine gJ (d:=(kI .i64)) (e:=2) (ps:=#[(0,.int .i64 a.f2)]) (cells:=[.int .i64 a.f2]) (xs:=[a.f2]) (fun w=>by kernel_rfl) rfl ⟨[.int .i64 a.f2],_,rfl,rfl,rfl⟩ J X (fun Q1 w X=>?_) rfl
     refine hK _ [] _ rfl (dF [6,7,8,11] [9] (by kernel_rfl) ⟨pm rfl,pt [(11,_)] rfl (fun U J=>eR rL J rfl rfl),pt [(28,_)] rfl (fun U J=>cM uu3 (X.cell 3 rfl 1 _ rfl) J rfl rfl rfl),pm rfl,trivial⟩ ⟨et [(29,_)] rfl (fun U J K hK=>?_),trivial⟩)
     refine gJ (d:=(kI .i64)) (e:=2) (ps:=#[(0,.int .i64 a.f1)]) (cells:=[.int .i64 a.f1]) (xs:=[a.f1]) (fun w=>by kernel_rfl) rfl ⟨[.int .i64 a.f1],_,rfl,rfl,rfl⟩ J X (fun Q2 w X=>?_) rfl
     refine hK _ [] _ rfl (dF [6,11] [10] (by kernel_rfl) ⟨pm rfl,pm rfl,trivial⟩ ⟨et [(27,_),(30,_)] rfl (fun U J K hK=>?_),trivial⟩)
     obtain⟨I6,G⟩:=aB G
     have hr:=X.rd 0 rfl
     refine cQ 6 kX bM J X hr.1 hr.2.1 I6 rfl (fun q2 q3 q4 w X=>?_) rfl
     refine hK _ [] _ rfl (dF [11] [15] (by kernel_rfl) ⟨pm rfl,trivial⟩ ⟨et [(32,_),(35,_)] rfl (fun U J K hK=>?_),trivial⟩)
     obtain⟨I7,G⟩:=aB G
     have hr:=X.rd 2 rfl
     refine cQ 7 kX bM J X hr.1 hr.2.1 I7 rfl (fun q5 q6 q7 w X=>?_) rfl
     refine hK _ [(16,.slice S T W),(17,.slice q2 q3 q4),(18,.slice q5 q6 q7)] _ rfl (gK [16,17,18] (by kernel_rfl) ⟨pm rfl,pm rfl,pm rfl,trivial⟩ ⟨by kernel_rfl,by kernel_rfl⟩ [(0,_),(5,_),(6,_),(7,_),(8,_),(9,_),(11,_),(15,_),(16,_),(17,_)] rfl (fun U J=>?_))
     replace X:=X.drop 2 |>.drop 2 |>.drop 3 |>.pk 7 |>.pk 7 |>.pk 7 |>.pk 3 |>.pk 4 |>.pk 5 |>.pk 7 |>.pk 7
     exact hj1 (f++[b]) G S T W q2 q3 q4 q5 q6 q7 U w (J.sub _ rfl) X
   ·refine et [(29,_)] rfl (fun U J K hK=>?_)
    refine gJ (d:=(kI .i64)) (e:=2) (ps:=#[(0,.int .i64 a.f1)]) (cells:=[.int .i64 a.f1]) (xs:=[a.f1]) (fun w=>by kernel_rfl) rfl ⟨[.int .i64 a.f1],_,rfl,rfl,rfl⟩ J X (fun Q3 w X=>?_) rfl
    refine hK _ [] _ rfl (dF [0,6,11,12,13] [5,14] (by kernel_rfl) ⟨pm rfl,pm rfl,pm rfl,pt [(11,_)] rfl (fun U J=>eR iR J rfl rfl),pt [(33,_)] rfl (fun U J=>cM uu2 (X.cell 2 rfl 2 _ rfl) J rfl rfl rfl),trivial⟩ ⟨?_,?_,trivial⟩)
    ·refine et [(21,_),(25,_)] rfl (fun U J K hK=>?_)
     obtain⟨I8,G⟩:=aB G
     have hr:=X.rd 1 rfl
     refine cQ 4 kX bM J X hr.1 hr.2.1 I8 rfl (fun i5 i6 i7 w X=>?_) rfl
     refine hK _ [] _ rfl (dF [6,11,12,13] [10,14] (by kernel_rfl) ⟨pm rfl,pm rfl,pt [(11,_)] rfl (fun U J=>eR iR J rfl rfl),pt [(33,_)] rfl (fun U J=>cM uu2 (X.cell 3 rfl 2 _ rfl) J rfl rfl rfl),trivial⟩ ⟨?_,?_,trivial⟩)
     ·refine et [(27,_),(30,_)] rfl (fun U J K hK=>?_)
      obtain⟨I9,G⟩:=aB G
      have hr:=X.rd 1 rfl
      refine cQ 5 kX bM J X hr.1 hr.2.1 I9 rfl (fun q8 q9 r0 w X=>?_) rfl
      refine hK _ [] _ rfl (dF [11,12,13] [14] (by kernel_rfl) ⟨pm rfl,pt [(11,_)] rfl (fun U J=>eR iR J rfl rfl),pt [(33,_)] rfl (fun U J=>cM uu2 (X.cell 4 rfl 2 _ rfl) J rfl rfl rfl),trivial⟩ ⟨et [(34,_)] rfl (fun U J K hK=>?_),trivial⟩)
      refine gJ (d:=(kI .i64)) (e:=2) (ps:=#[(0,.int .i64 a.f2)]) (cells:=[.int .i64 a.f2]) (xs:=[a.f2]) (fun w=>by kernel_rfl) rfl ⟨[.int .i64 a.f2],_,rfl,rfl,rfl⟩ J X (fun Q4 w X=>?_) rfl
      refine hK _ [] _ rfl (dF [11] [15] (by kernel_rfl) ⟨pm rfl,trivial⟩ ⟨et [(32,_),(35,_)] rfl (fun U J K hK=>?_),trivial⟩)
      obtain⟨J0,G⟩:=aB G
      have hr:=X.rd 0 rfl
      refine cQ 7 kX bM J X hr.1 hr.2.1 J0 rfl (fun r1 r2 r3 w X=>?_) rfl
      refine hK _ [(16,.slice i5 i6 i7),(17,.slice q8 q9 r0),(18,.slice r1 r2 r3)] _ rfl (gK [16,17,18] (by kernel_rfl) ⟨pm rfl,pm rfl,pm rfl,trivial⟩ ⟨by kernel_rfl,by kernel_rfl⟩ [(0,_),(5,_),(6,_),(7,_),(8,_),(9,_),(11,_),(15,_),(16,_),(17,_)] rfl (fun U J=>?_))
      replace X:=X.drop 1 |>.drop 3 |>.drop 3 |>.pk 7 |>.pk 7 |>.pk 7 |>.pk 3 |>.pk 4 |>.pk 5 |>.pk 7 |>.pk 7
      exact hj1 (f++[b]) G i5 i6 i7 q8 q9 r0 r1 r2 r3 U w (J.sub _ rfl) X
     ·refine et [(34,_)] rfl (fun U J K hK=>?_)
      refine gJ (d:=(kI .i64)) (e:=2) (ps:=#[(0,.int .i64 a.f2)]) (cells:=[.int .i64 a.f2]) (xs:=[a.f2]) (fun w=>by kernel_rfl) rfl ⟨[.int .i64 a.f2],_,rfl,rfl,rfl⟩ J X (fun Q5 w X=>?_) rfl
      refine hK _ [] _ rfl (dF [6,11] [10] (by kernel_rfl) ⟨pm rfl,pm rfl,trivial⟩ ⟨et [(27,_),(30,_)] rfl (fun U J K hK=>?_),trivial⟩)
      obtain⟨J1,G⟩:=aB G
      have hr:=X.rd 2 rfl
      refine cQ 6 kX bM J X hr.1 hr.2.1 J1 rfl (fun r4 r5 r6 w X=>?_) rfl
      refine hK _ [] _ rfl (dF [11] [15] (by kernel_rfl) ⟨pm rfl,trivial⟩ ⟨et [(32,_),(35,_)] rfl (fun U J K hK=>?_),trivial⟩)
      obtain⟨J2,G⟩:=aB G
      have hr:=X.rd 1 rfl
      refine cQ 7 kX bM J X hr.1 hr.2.1 J2 rfl (fun r7 r8 r9 w X=>?_) rfl
      refine hK _ [(16,.slice i5 i6 i7),(17,.slice r4 r5 r6),(18,.slice r7 r8 r9)] _ rfl (gK [16,17,18] (by kernel_rfl) ⟨pm rfl,pm rfl,pm rfl,trivial⟩ ⟨by kernel_rfl,by kernel_rfl⟩ [(0,_),(5,_),(6,_),(7,_),(8,_),(9,_),(11,_),(15,_),(16,_),(17,_)] rfl (fun U J=>?_))
      replace X:=X.drop 2 |>.drop 3 |>.drop 3 |>.pk 7 |>.pk 7 |>.pk 7 |>.pk 3 |>.pk 4 |>.pk 5 |>.pk 7 |>.pk 7
      exact hj1 (f++[b]) G i5 i6 i7 r4 r5 r6 r7 r8 r9 U w (J.sub _ rfl) X
    ·refine et [(34,_)] rfl (fun U J K hK=>?_)
     refine gJ (d:=(kI .i64)) (e:=2) (ps:=#[(0,.int .i64 a.f2)]) (cells:=[.int .i64 a.f2]) (xs:=[a.f2]) (fun w=>by kernel_rfl) rfl ⟨[.int .i64 a.f2],_,rfl,rfl,rfl⟩ J X (fun Q6 w X=>?_) rfl
     refine hK _ [] _ rfl (dF [0,6,11] [5] (by kernel_rfl) ⟨pm rfl,pm rfl,pm rfl,trivial⟩ ⟨et [(21,_),(25,_)] rfl (fun U J K hK=>?_),trivial⟩)
     obtain⟨J3,G⟩:=aB G
     have hr:=X.rd 2 rfl
     refine cQ 5 kX bM J X hr.1 hr.2.1 J3 rfl (fun s0 s2 s3 w X=>?_) rfl
     refine hK _ [] _ rfl (dF [6,11] [10] (by kernel_rfl) ⟨pm rfl,pm rfl,trivial⟩ ⟨et [(27,_),(30,_)] rfl (fun U J K hK=>?_),trivial⟩)
     obtain⟨J4,G⟩:=aB G
     have hr:=X.rd 2 rfl
     refine cQ 6 kX bM J X hr.1 hr.2.1 J4 rfl (fun s4 s5 s6 w X=>?_) rfl
     refine hK _ [] _ rfl (dF [11] [15] (by kernel_rfl) ⟨pm rfl,trivial⟩ ⟨et [(32,_),(35,_)] rfl (fun U J K hK=>?_),trivial⟩)
     obtain⟨J5,G⟩:=aB G
     have hr:=X.rd 2 rfl
     refine cQ 7 kX bM J X hr.1 hr.2.1 J5 rfl (fun s7 s8 s9 w X=>?_) rfl
     refine hK _ [(16,.slice s0 s2 s3),(17,.slice s4 s5 s6),(18,.slice s7 s8 s9)] _ rfl (gK [16,17,18] (by kernel_rfl) ⟨pm rfl,pm rfl,pm rfl,trivial⟩ ⟨by kernel_rfl,by kernel_rfl⟩ [(0,_),(5,_),(6,_),(7,_),(8,_),(9,_),(11,_),(15,_),(16,_),(17,_)] rfl (fun U J=>?_))
     replace X:=X.drop 3 |>.drop 3 |>.drop 3 |>.pk 7 |>.pk 7 |>.pk 7 |>.pk 3 |>.pk 4 |>.pk 5 |>.pk 7 |>.pk 7
     exact hj1 (f++[b]) G s0 s2 s3 s4 s5 s6 s7 s8 s9 U w (J.sub _ rfl) X
   ·refine et [(34,_)] rfl (fun U J K hK=>?_)
    refine gJ (d:=(kI .i64)) (e:=2) (ps:=#[(0,.int .i64 a.f2)]) (cells:=[.int .i64 a.f2]) (xs:=[a.f2]) (fun w=>by kernel_rfl) rfl ⟨[.int .i64 a.f2],_,rfl,rfl,rfl⟩ J X (fun Q7 w X=>?_) rfl
    refine hK _ [] _ rfl (dF [0,6,7,8,11] [5,9] (by kernel_rfl) ⟨pm rfl,pm rfl,pt [(11,_)] rfl (fun U J=>eR rL J rfl rfl),pt [(28,_)] rfl (fun U J=>cM uu3 (X.cell 2 rfl 1 _ rfl) J rfl rfl rfl),pm rfl,trivial⟩ ⟨?_,?_,trivial⟩)
    ·refine et [(21,_),(25,_)] rfl (fun U J K hK=>?_)
     obtain⟨J6,G⟩:=aB G
     have hr:=X.rd 1 rfl
     refine cQ 4 kX bM J X hr.1 hr.2.1 J6 rfl (fun t0 t1 t2 w X=>?_) rfl
     refine hK _ [] _ rfl (dF [6,7,8,11] [9] (by kernel_rfl) ⟨pm rfl,pt [(11,_)] rfl (fun U J=>eR rL J rfl rfl),pt [(28,_)] rfl (fun U J=>cM uu3 (X.cell 3 rfl 1 _ rfl) J rfl rfl rfl),pm rfl,trivial⟩ ⟨et [(29,_)] rfl (fun U J K hK=>?_),trivial⟩)
     refine gJ (d:=(kI .i64)) (e:=2) (ps:=#[(0,.int .i64 a.f1)]) (cells:=[.int .i64 a.f1]) (xs:=[a.f1]) (fun w=>by kernel_rfl) rfl ⟨[.int .i64 a.f1],_,rfl,rfl,rfl⟩ J X (fun Q8 w X=>?_) rfl
     refine hK _ [] _ rfl (dF [6,11] [10] (by kernel_rfl) ⟨pm rfl,pm rfl,trivial⟩ ⟨et [(27,_),(30,_)] rfl (fun U J K hK=>?_),trivial⟩)
     obtain⟨J7,G⟩:=aB G
     have hr:=X.rd 0 rfl
     refine cQ 6 kX bM J X hr.1 hr.2.1 J7 rfl (fun t3 t4 t5 w X=>?_) rfl
     refine hK _ [] _ rfl (dF [11] [15] (by kernel_rfl) ⟨pm rfl,trivial⟩ ⟨et [(32,_),(35,_)] rfl (fun U J K hK=>?_),trivial⟩)
     obtain⟨J8,G⟩:=aB G
     have hr:=X.rd 3 rfl
     refine cQ 7 kX bM J X hr.1 hr.2.1 J8 rfl (fun t6 t7 t8 w X=>?_) rfl
     refine hK _ [(16,.slice t0 t1 t2),(17,.slice t3 t4 t5),(18,.slice t6 t7 t8)] _ rfl (gK [16,17,18] (by kernel_rfl) ⟨pm rfl,pm rfl,pm rfl,trivial⟩ ⟨by kernel_rfl,by kernel_rfl⟩ [(0,_),(5,_),(6,_),(7,_),(8,_),(9,_),(11,_),(15,_),(16,_),(17,_)] rfl (fun U J=>?_))
     replace X:=X.drop 2 |>.drop 3 |>.drop 3 |>.pk 7 |>.pk 7 |>.pk 7 |>.pk 3 |>.pk 4 |>.pk 5 |>.pk 7 |>.pk 7
     exact hj1 (f++[b]) G t0 t1 t2 t3 t4 t5 t6 t7 t8 U w (J.sub _ rfl) X
    ·refine et [(29,_)] rfl (fun U J K hK=>?_)
     refine gJ (d:=(kI .i64)) (e:=2) (ps:=#[(0,.int .i64 a.f1)]) (cells:=[.int .i64 a.f1]) (xs:=[a.f1]) (fun w=>by kernel_rfl) rfl ⟨[.int .i64 a.f1],_,rfl,rfl,rfl⟩ J X (fun Q9 w X=>?_) rfl
     refine hK _ [] _ rfl (dF [0,6,11] [5] (by kernel_rfl) ⟨pm rfl,pm rfl,pm rfl,trivial⟩ ⟨et [(21,_),(25,_)] rfl (fun U J K hK=>?_),trivial⟩)
     obtain⟨J9,G⟩:=aB G
     have hr:=X.rd 2 rfl
     refine cQ 5 kX bM J X hr.1 hr.2.1 J9 rfl (fun t9 u0 u1 w X=>?_) rfl
     refine hK _ [] _ rfl (dF [6,11] [10] (by kernel_rfl) ⟨pm rfl,pm rfl,trivial⟩ ⟨et [(27,_),(30,_)] rfl (fun U J K hK=>?_),trivial⟩)
     obtain⟨K0,G⟩:=aB G
     have hr:=X.rd 1 rfl
     refine cQ 6 kX bM J X hr.1 hr.2.1 K0 rfl (fun u2 u3 u4 w X=>?_) rfl
     refine hK _ [] _ rfl (dF [11] [15] (by kernel_rfl) ⟨pm rfl,trivial⟩ ⟨et [(32,_),(35,_)] rfl (fun U J K hK=>?_),trivial⟩)
     obtain⟨K1,G⟩:=aB G
     have hr:=X.rd 3 rfl
     refine cQ 7 kX bM J X hr.1 hr.2.1 K1 rfl (fun u5 u6 u7 w X=>?_) rfl
     refine hK _ [(16,.slice t9 u0 u1),(17,.slice u2 u3 u4),(18,.slice u5 u6 u7)] _ rfl (gK [16,17,18] (by kernel_rfl) ⟨pm rfl,pm rfl,pm rfl,trivial⟩ ⟨by kernel_rfl,by kernel_rfl⟩ [(0,_),(5,_),(6,_),(7,_),(8,_),(9,_),(11,_),(15,_),(16,_),(17,_)] rfl (fun U J=>?_))
     replace X:=X.drop 3 |>.drop 3 |>.drop 3 |>.pk 7 |>.pk 7 |>.pk 7 |>.pk 3 |>.pk 4 |>.pk 5 |>.pk 7 |>.pk 7
     exact hj1 (f++[b]) G t9 u0 u1 u2 u3 u4 u5 u6 u7 U w (J.sub _ rfl) X
  ·refine et [(29,_)] rfl (fun U J K hK=>?_)
   refine gJ (d:=(kI .i64)) (e:=2) (ps:=#[(0,.int .i64 a.f1)]) (cells:=[.int .i64 a.f1]) (xs:=[a.f1]) (fun w=>by kernel_rfl) rfl ⟨[.int .i64 a.f1],_,rfl,rfl,rfl⟩ J X (fun R0 w X=>?_) rfl
   refine hK _ [] _ rfl (dF [0,1,2,3,6,11,12,13] [4,14] (by kernel_rfl) ⟨pm rfl,pt [(11,_)] rfl (fun U J=>eR uD J rfl rfl),pt [(22,_)] rfl (fun U J=>cM mE (X.cell 1 rfl 0 _ rfl) J rfl rfl rfl),pt [(23,_)] rfl fun U J=>kQ b9 (aY mE uu2 rfl (J.ev rfl)),pm rfl,pm rfl,pt [(11,_)] rfl (fun U J=>eR iR J rfl rfl),pt [(33,_)] rfl (fun U J=>cM uu2 (X.cell 1 rfl 2 _ rfl) J rfl rfl rfl),trivial⟩ ⟨?_,?_,trivial⟩)
   ·refine et [(24,_)] rfl (fun U J K hK=>?_)
    refine gJ (d:=(kI .i64)) (e:=2) (ps:=#[(0,.int .i64 b)]) (cells:=[.int .i64 b]) (xs:=[b]) (fun w=>by kernel_rfl) rfl ⟨[.int .i64 b],_,rfl,rfl,rfl⟩ J X (fun R1 w X=>?_) rfl
    refine hK _ [] _ rfl (dF [0,6,11,12,13] [5,14] (by kernel_rfl) ⟨pm rfl,pm rfl,pm rfl,pt [(11,_)] rfl (fun U J=>eR iR J rfl rfl),pt [(33,_)] rfl (fun U J=>cM uu2 (X.cell 2 rfl 2 _ rfl) J rfl rfl rfl),trivial⟩ ⟨?_,?_,trivial⟩)
    ·refine et [(21,_),(25,_)] rfl (fun U J K hK=>?_)
     obtain⟨K2,G⟩:=aB G
     have hr:=X.rd 0 rfl
     refine cQ 4 kX bM J X hr.1 hr.2.1 K2 rfl (fun i8 i9 j0 w X=>?_) rfl
     refine hK _ [] _ rfl (dF [6,11,12,13] [10,14] (by kernel_rfl) ⟨pm rfl,pm rfl,pt [(11,_)] rfl (fun U J=>eR iR J rfl rfl),pt [(33,_)] rfl (fun U J=>cM uu2 (X.cell 3 rfl 2 _ rfl) J rfl rfl rfl),trivial⟩ ⟨?_,?_,trivial⟩)
     ·refine et [(27,_),(30,_)] rfl (fun U J K hK=>?_)
      obtain⟨K3,G⟩:=aB G
      have hr:=X.rd 2 rfl
      refine cQ 5 kX bM J X hr.1 hr.2.1 K3 rfl (fun u9 v0 v1 w X=>?_) rfl
      refine hK _ [] _ rfl (dF [11,12,13] [14] (by kernel_rfl) ⟨pm rfl,pt [(11,_)] rfl (fun U J=>eR iR J rfl rfl),pt [(33,_)] rfl (fun U J=>cM uu2 (X.cell 4 rfl 2 _ rfl) J rfl rfl rfl),trivial⟩ ⟨et [(34,_)] rfl (fun U J K hK=>?_),trivial⟩)
      refine gJ (d:=(kI .i64)) (e:=2) (ps:=#[(0,.int .i64 a.f2)]) (cells:=[.int .i64 a.f2]) (xs:=[a.f2]) (fun w=>by kernel_rfl) rfl ⟨[.int .i64 a.f2],_,rfl,rfl,rfl⟩ J X (fun R2 w X=>?_) rfl
      refine hK _ [] _ rfl (dF [11] [15] (by kernel_rfl) ⟨pm rfl,trivial⟩ ⟨et [(32,_),(35,_)] rfl (fun U J K hK=>?_),trivial⟩)
      obtain⟨K4,G⟩:=aB G
      have hr:=X.rd 0 rfl
      refine cQ 7 kX bM J X hr.1 hr.2.1 K4 rfl (fun v2 v3 v4 w X=>?_) rfl
      refine hK _ [(16,.slice i8 i9 j0),(17,.slice u9 v0 v1),(18,.slice v2 v3 v4)] _ rfl (gK [16,17,18] (by kernel_rfl) ⟨pm rfl,pm rfl,pm rfl,trivial⟩ ⟨by kernel_rfl,by kernel_rfl⟩ [(0,_),(5,_),(6,_),(7,_),(8,_),(9,_),(11,_),(15,_),(16,_),(17,_)] rfl (fun U J=>?_))
      replace X:=X.drop 1 |>.drop 3 |>.drop 3 |>.pk 7 |>.pk 7 |>.pk 7 |>.pk 3 |>.pk 4 |>.pk 5 |>.pk 7 |>.pk 7
      exact hj1 (f++[b]) G i8 i9 j0 u9 v0 v1 v2 v3 v4 U w (J.sub _ rfl) X
     ·refine et [(34,_)] rfl (fun U J K hK=>?_)
      refine gJ (d:=(kI .i64)) (e:=2) (ps:=#[(0,.int .i64 a.f2)]) (cells:=[.int .i64 a.f2]) (xs:=[a.f2]) (fun w=>by kernel_rfl) rfl ⟨[.int .i64 a.f2],_,rfl,rfl,rfl⟩ J X (fun R3 w X=>?_) rfl
      refine hK _ [] _ rfl (dF [6,11] [10] (by kernel_rfl) ⟨pm rfl,pm rfl,trivial⟩ ⟨et [(27,_),(30,_)] rfl (fun U J K hK=>?_),trivial⟩)
      obtain⟨K5,G⟩:=aB G
      have hr:=X.rd 3 rfl
      refine cQ 6 kX bM J X hr.1 hr.2.1 K5 rfl (fun v5 v6 v7 w X=>?_) rfl
      refine hK _ [] _ rfl (dF [11] [15] (by kernel_rfl) ⟨pm rfl,trivial⟩ ⟨et [(32,_),(35,_)] rfl (fun U J K hK=>?_),trivial⟩)
      obtain⟨K6,G⟩:=aB G
      have hr:=X.rd 1 rfl
      refine cQ 7 kX bM J X hr.1 hr.2.1 K6 rfl (fun v8 v9 w0 w X=>?_) rfl
      refine hK _ [(16,.slice i8 i9 j0),(17,.slice v5 v6 v7),(18,.slice v8 v9 w0)] _ rfl (gK [16,17,18] (by kernel_rfl) ⟨pm rfl,pm rfl,pm rfl,trivial⟩ ⟨by kernel_rfl,by kernel_rfl⟩ [(0,_),(5,_),(6,_),(7,_),(8,_),(9,_),(11,_),(15,_),(16,_),(17,_)] rfl (fun U J=>?_))
      replace X:=X.drop 2 |>.drop 3 |>.drop 3 |>.pk 7 |>.pk 7 |>.pk 7 |>.pk 3 |>.pk 4 |>.pk 5 |>.pk 7 |>.pk 7
      exact hj1 (f++[b]) G i8 i9 j0 v5 v6 v7 v8 v9 w0 U w (J.sub _ rfl) X
    ·refine et [(34,_)] rfl (fun U J K hK=>?_)
     refine gJ (d:=(kI .i64)) (e:=2) (ps:=#[(0,.int .i64 a.f2)]) (cells:=[.int .i64 a.f2]) (xs:=[a.f2]) (fun w=>by kernel_rfl) rfl ⟨[.int .i64 a.f2],_,rfl,rfl,rfl⟩ J X (fun R4 w X=>?_) rfl
     refine hK _ [] _ rfl (dF [0,6,11] [5] (by kernel_rfl) ⟨pm rfl,pm rfl,pm rfl,trivial⟩ ⟨et [(21,_),(25,_)] rfl (fun U J K hK=>?_),trivial⟩)
     obtain⟨K7,G⟩:=aB G
     have hr:=X.rd 1 rfl
     refine cQ 5 kX bM J X hr.1 hr.2.1 K7 rfl (fun w1 w2 w3 w X=>?_) rfl
     refine hK _ [] _ rfl (dF [6,11] [10] (by kernel_rfl) ⟨pm rfl,pm rfl,trivial⟩ ⟨et [(27,_),(30,_)] rfl (fun U J K hK=>?_),trivial⟩)
     obtain⟨K8,G⟩:=aB G
     have hr:=X.rd 3 rfl
     refine cQ 6 kX bM J X hr.1 hr.2.1 K8 rfl (fun w4 w5 w6 w X=>?_) rfl
     refine hK _ [] _ rfl (dF [11] [15] (by kernel_rfl) ⟨pm rfl,trivial⟩ ⟨et [(32,_),(35,_)] rfl (fun U J K hK=>?_),trivial⟩)
     obtain⟨K9,G⟩:=aB G
     have hr:=X.rd 2 rfl
     refine cQ 7 kX bM J X hr.1 hr.2.1 K9 rfl (fun w7 w8 w9 w X=>?_) rfl
     refine hK _ [(16,.slice w1 w2 w3),(17,.slice w4 w5 w6),(18,.slice w7 w8 w9)] _ rfl (gK [16,17,18] (by kernel_rfl) ⟨pm rfl,pm rfl,pm rfl,trivial⟩ ⟨by kernel_rfl,by kernel_rfl⟩ [(0,_),(5,_),(6,_),(7,_),(8,_),(9,_),(11,_),(15,_),(16,_),(17,_)] rfl (fun U J=>?_))
     replace X:=X.drop 3 |>.drop 3 |>.drop 3 |>.pk 7 |>.pk 7 |>.pk 7 |>.pk 3 |>.pk 4 |>.pk 5 |>.pk 7 |>.pk 7
     exact hj1 (f++[b]) G w1 w2 w3 w4 w5 w6 w7 w8 w9 U w (J.sub _ rfl) X
   ·refine et [(34,_)] rfl (fun U J K hK=>?_)
    refine gJ (d:=(kI .i64)) (e:=2) (ps:=#[(0,.int .i64 a.f2)]) (cells:=[.int .i64 a.f2]) (xs:=[a.f2]) (fun w=>by kernel_rfl) rfl ⟨[.int .i64 a.f2],_,rfl,rfl,rfl⟩ J X (fun R5 w X=>?_) rfl
    refine hK _ [] _ rfl (dF [0,1,2,3,6,11] [4] (by kernel_rfl) ⟨pm rfl,pt [(11,_)] rfl (fun U J=>eR uD J rfl rfl),pt [(22,_)] rfl (fun U J=>cM mE (X.cell 2 rfl 0 _ rfl) J rfl rfl rfl),pt [(23,_)] rfl fun U J=>kQ b9 (aY mE uu2 rfl (J.ev rfl)),pm rfl,pm rfl,trivial⟩ ⟨et [(24,_)] rfl (fun U J K hK=>?_),trivial⟩)
    refine gJ (d:=(kI .i64)) (e:=2) (ps:=#[(0,.int .i64 b)]) (cells:=[.int .i64 b]) (xs:=[b]) (fun w=>by kernel_rfl) rfl ⟨[.int .i64 b],_,rfl,rfl,rfl⟩ J X (fun R6 w X=>?_) rfl
    refine hK _ [] _ rfl (dF [0,6,11] [5] (by kernel_rfl) ⟨pm rfl,pm rfl,pm rfl,trivial⟩ ⟨et [(21,_),(25,_)] rfl (fun U J K hK=>?_),trivial⟩)
    obtain⟨L0,G⟩:=aB G
    have hr:=X.rd 0 rfl
    refine cQ 5 kX bM J X hr.1 hr.2.1 L0 rfl (fun x0 x1 x2 w X=>?_) rfl
    refine hK _ [] _ rfl (dF [6,11] [10] (by kernel_rfl) ⟨pm rfl,pm rfl,trivial⟩ ⟨et [(27,_),(30,_)] rfl (fun U J K hK=>?_),trivial⟩)
    obtain⟨L1,G⟩:=aB G
    have hr:=X.rd 3 rfl
    refine cQ 6 kX bM J X hr.1 hr.2.1 L1 rfl (fun x3 x4 x5 w X=>?_) rfl
    refine hK _ [] _ rfl (dF [11] [15] (by kernel_rfl) ⟨pm rfl,trivial⟩ ⟨et [(32,_),(35,_)] rfl (fun U J K hK=>?_),trivial⟩)
    obtain⟨L2,G⟩:=aB G
    have hr:=X.rd 3 rfl
    refine cQ 7 kX bM J X hr.1 hr.2.1 L2 rfl (fun x6 x7 x8 w X=>?_) rfl
    refine hK _ [(16,.slice x0 x1 x2),(17,.slice x3 x4 x5),(18,.slice x6 x7 x8)] _ rfl (gK [16,17,18] (by kernel_rfl) ⟨pm rfl,pm rfl,pm rfl,trivial⟩ ⟨by kernel_rfl,by kernel_rfl⟩ [(0,_),(5,_),(6,_),(7,_),(8,_),(9,_),(11,_),(15,_),(16,_),(17,_)] rfl (fun U J=>?_))
    replace X:=X.drop 3 |>.drop 3 |>.drop 3 |>.pk 7 |>.pk 7 |>.pk 7 |>.pk 3 |>.pk 4 |>.pk 5 |>.pk 7 |>.pk 7
    exact hj1 (f++[b]) G x0 x1 x2 x3 x4 x5 x6 x7 x8 U w (J.sub _ rfl) X
  ·refine et [(34,_)] rfl (fun U J K hK=>?_)
   refine gJ (d:=(kI .i64)) (e:=2) (ps:=#[(0,.int .i64 a.f2)]) (cells:=[.int .i64 a.f2]) (xs:=[a.f2]) (fun w=>by kernel_rfl) rfl ⟨[.int .i64 a.f2],_,rfl,rfl,rfl⟩ J X (fun R7 w X=>?_) rfl
   refine hK _ [] _ rfl (dF [0,1,2,3,6,7,8,11] [4,9] (by kernel_rfl) ⟨pm rfl,pt [(11,_)] rfl (fun U J=>eR uD J rfl rfl),pt [(22,_)] rfl (fun U J=>cM mE (X.cell 1 rfl 0 _ rfl) J rfl rfl rfl),pt [(23,_)] rfl fun U J=>kQ b9 (aY mE uu2 rfl (J.ev rfl)),pm rfl,pt [(11,_)] rfl (fun U J=>eR rL J rfl rfl),pt [(28,_)] rfl (fun U J=>cM uu3 (X.cell 1 rfl 1 _ rfl) J rfl rfl rfl),pm rfl,trivial⟩ ⟨?_,?_,trivial⟩)
   ·refine et [(24,_)] rfl (fun U J K hK=>?_)
    refine gJ (d:=(kI .i64)) (e:=2) (ps:=#[(0,.int .i64 b)]) (cells:=[.int .i64 b]) (xs:=[b]) (fun w=>by kernel_rfl) rfl ⟨[.int .i64 b],_,rfl,rfl,rfl⟩ J X (fun R8 w X=>?_) rfl
    refine hK _ [] _ rfl (dF [0,6,7,8,11] [5,9] (by kernel_rfl) ⟨pm rfl,pm rfl,pt [(11,_)] rfl (fun U J=>eR rL J rfl rfl),pt [(28,_)] rfl (fun U J=>cM uu3 (X.cell 2 rfl 1 _ rfl) J rfl rfl rfl),pm rfl,trivial⟩ ⟨?_,?_,trivial⟩)
    ·refine et [(21,_),(25,_)] rfl (fun U J K hK=>?_)
     obtain⟨L3,G⟩:=aB G
     have hr:=X.rd 0 rfl
     refine cQ 4 kX bM J X hr.1 hr.2.1 L3 rfl (fun x9 y0 y1 w X=>?_) rfl
     refine hK _ [] _ rfl (dF [6,7,8,11] [9] (by kernel_rfl) ⟨pm rfl,pt [(11,_)] rfl (fun U J=>eR rL J rfl rfl),pt [(28,_)] rfl (fun U J=>cM uu3 (X.cell 3 rfl 1 _ rfl) J rfl rfl rfl),pm rfl,trivial⟩ ⟨et [(29,_)] rfl (fun U J K hK=>?_),trivial⟩)
     refine gJ (d:=(kI .i64)) (e:=2) (ps:=#[(0,.int .i64 a.f1)]) (cells:=[.int .i64 a.f1]) (xs:=[a.f1]) (fun w=>by kernel_rfl) rfl ⟨[.int .i64 a.f1],_,rfl,rfl,rfl⟩ J X (fun R9 w X=>?_) rfl
     refine hK _ [] _ rfl (dF [6,11] [10] (by kernel_rfl) ⟨pm rfl,pm rfl,trivial⟩ ⟨et [(27,_),(30,_)] rfl (fun U J K hK=>?_),trivial⟩)
     obtain⟨L4,G⟩:=aB G
     have hr:=X.rd 0 rfl
     refine cQ 6 kX bM J X hr.1 hr.2.1 L4 rfl (fun y2 y3 y4 w X=>?_) rfl
     refine hK _ [] _ rfl (dF [11] [15] (by kernel_rfl) ⟨pm rfl,trivial⟩ ⟨et [(32,_),(35,_)] rfl (fun U J K hK=>?_),trivial⟩)
     obtain⟨L5,G⟩:=aB G
     have hr:=X.rd 4 rfl
     refine cQ 7 kX bM J X hr.1 hr.2.1 L5 rfl (fun y5 y6 y7 w X=>?_) rfl
     refine hK _ [(16,.slice x9 y0 y1),(17,.slice y2 y3 y4),(18,.slice y5 y6 y7)] _ rfl (gK [16,17,18] (by kernel_rfl) ⟨pm rfl,pm rfl,pm rfl,trivial⟩ ⟨by kernel_rfl,by kernel_rfl⟩ [(0,_),(5,_),(6,_),(7,_),(8,_),(9,_),(11,_),(15,_),(16,_),(17,_)] rfl (fun U J=>?_))
     replace X:=X.drop 2 |>.drop 3 |>.drop 3 |>.pk 7 |>.pk 7 |>.pk 7 |>.pk 3 |>.pk 4 |>.pk 5 |>.pk 7 |>.pk 7
     exact hj1 (f++[b]) G x9 y0 y1 y2 y3 y4 y5 y6 y7 U w (J.sub _ rfl) X
    ·refine et [(29,_)] rfl (fun U J K hK=>?_)
     refine gJ (d:=(kI .i64)) (e:=2) (ps:=#[(0,.int .i64 a.f1)]) (cells:=[.int .i64 a.f1]) (xs:=[a.f1]) (fun w=>by kernel_rfl) rfl ⟨[.int .i64 a.f1],_,rfl,rfl,rfl⟩ J X (fun S0 w X=>?_) rfl
     refine hK _ [] _ rfl (dF [0,6,11] [5] (by kernel_rfl) ⟨pm rfl,pm rfl,pm rfl,trivial⟩ ⟨et [(21,_),(25,_)] rfl (fun U J K hK=>?_),trivial⟩)
     obtain⟨L6,G⟩:=aB G
     have hr:=X.rd 1 rfl
     refine cQ 5 kX bM J X hr.1 hr.2.1 L6 rfl (fun y8 y9 z0 w X=>?_) rfl
     refine hK _ [] _ rfl (dF [6,11] [10] (by kernel_rfl) ⟨pm rfl,pm rfl,trivial⟩ ⟨et [(27,_),(30,_)] rfl (fun U J K hK=>?_),trivial⟩)
     obtain⟨L7,G⟩:=aB G
     have hr:=X.rd 1 rfl
     refine cQ 6 kX bM J X hr.1 hr.2.1 L7 rfl (fun z1 z2 z3 w X=>?_) rfl
     refine hK _ [] _ rfl (dF [11] [15] (by kernel_rfl) ⟨pm rfl,trivial⟩ ⟨et [(32,_),(35,_)] rfl (fun U J K hK=>?_),trivial⟩)
     obtain⟨L8,G⟩:=aB G
     have hr:=X.rd 4 rfl
     refine cQ 7 kX bM J X hr.1 hr.2.1 L8 rfl (fun z4 z5 z6 w X=>?_) rfl
     refine hK _ [(16,.slice y8 y9 z0),(17,.slice z1 z2 z3),(18,.slice z4 z5 z6)] _ rfl (gK [16,17,18] (by kernel_rfl) ⟨pm rfl,pm rfl,pm rfl,trivial⟩ ⟨by kernel_rfl,by kernel_rfl⟩ [(0,_),(5,_),(6,_),(7,_),(8,_),(9,_),(11,_),(15,_),(16,_),(17,_)] rfl (fun U J=>?_))
     replace X:=X.drop 3 |>.drop 3 |>.drop 3 |>.pk 7 |>.pk 7 |>.pk 7 |>.pk 3 |>.pk 4 |>.pk 5 |>.pk 7 |>.pk 7
     exact hj1 (f++[b]) G y8 y9 z0 z1 z2 z3 z4 z5 z6 U w (J.sub _ rfl) X
   ·refine et [(29,_)] rfl (fun U J K hK=>?_)
    refine gJ (d:=(kI .i64)) (e:=2) (ps:=#[(0,.int .i64 a.f1)]) (cells:=[.int .i64 a.f1]) (xs:=[a.f1]) (fun w=>by kernel_rfl) rfl ⟨[.int .i64 a.f1],_,rfl,rfl,rfl⟩ J X (fun S1 w X=>?_) rfl
    refine hK _ [] _ rfl (dF [0,1,2,3,6,11] [4] (by kernel_rfl) ⟨pm rfl,pt [(11,_)] rfl (fun U J=>eR uD J rfl rfl),pt [(22,_)] rfl (fun U J=>cM mE (X.cell 2 rfl 0 _ rfl) J rfl rfl rfl),pt [(23,_)] rfl fun U J=>kQ b9 (aY mE uu2 rfl (J.ev rfl)),pm rfl,pm rfl,trivial⟩ ⟨et [(24,_)] rfl (fun U J K hK=>?_),trivial⟩)
    refine gJ (d:=(kI .i64)) (e:=2) (ps:=#[(0,.int .i64 b)]) (cells:=[.int .i64 b]) (xs:=[b]) (fun w=>by kernel_rfl) rfl ⟨[.int .i64 b],_,rfl,rfl,rfl⟩ J X (fun S2 w X=>?_) rfl
    refine hK _ [] _ rfl (dF [0,6,11] [5] (by kernel_rfl) ⟨pm rfl,pm rfl,pm rfl,trivial⟩ ⟨et [(21,_),(25,_)] rfl (fun U J K hK=>?_),trivial⟩)
    obtain⟨L9,G⟩:=aB G
    have hr:=X.rd 0 rfl
    refine cQ 5 kX bM J X hr.1 hr.2.1 L9 rfl (fun z7 z8 z9 w X=>?_) rfl
    refine hK _ [] _ rfl (dF [6,11] [10] (by kernel_rfl) ⟨pm rfl,pm rfl,trivial⟩ ⟨et [(27,_),(30,_)] rfl (fun U J K hK=>?_),trivial⟩)
    obtain⟨M0,G⟩:=aB G
    have hr:=X.rd 2 rfl
    refine cQ 6 kX bM J X hr.1 hr.2.1 M0 rfl (fun A2 A3 A4 w X=>?_) rfl
    refine hK _ [] _ rfl (dF [11] [15] (by kernel_rfl) ⟨pm rfl,trivial⟩ ⟨et [(32,_),(35,_)] rfl (fun U J K hK=>?_),trivial⟩)
    obtain⟨M1,G⟩:=aB G
    have hr:=X.rd 4 rfl
    refine cQ 7 kX bM J X hr.1 hr.2.1 M1 rfl (fun A5 A6 A7 w X=>?_) rfl
    refine hK _ [(16,.slice z7 z8 z9),(17,.slice A2 A3 A4),(18,.slice A5 A6 A7)] _ rfl (gK [16,17,18] (by kernel_rfl) ⟨pm rfl,pm rfl,pm rfl,trivial⟩ ⟨by kernel_rfl,by kernel_rfl⟩ [(0,_),(5,_),(6,_),(7,_),(8,_),(9,_),(11,_),(15,_),(16,_),(17,_)] rfl (fun U J=>?_))
    replace X:=X.drop 3 |>.drop 3 |>.drop 3 |>.pk 7 |>.pk 7 |>.pk 7 |>.pk 3 |>.pk 4 |>.pk 5 |>.pk 7 |>.pk 7
    exact hj1 (f++[b]) G z7 z8 z9 A2 A3 A4 A5 A6 A7 U w (J.sub _ rfl) X
 cases G
 exact wp_exit (G2 f p q t x (G5 _ rfl) a8 a9 b1 b2 b3 b4 b5 b6 b7 g i k l m o U w (J.sub _ rfl) X)
end
noncomputable section
set_option linter.unusedSimpArgs false
def nS (a0:S47) (a1:S47):Option (Bool) :=
  if (!(a0.f3==a1.f3))=true then (some (Op.bytesLess a0.f3 a1.f3)) else (if (a0.f2 != a1.f2)=true then (some (decide (a0.f2<a1.f2))) else (some (decide (a0.f0<a1.f0))))
def iZ (a0:S47) (a1:S47):Option (Int) :=
  (nS a0 a1).bind fun a=>(if a=true then (some (-1)) else ((nS a1 a0).bind fun b=>(if b=true then (some 1) else (some 0))))
def fF (a0:(List S47)):Option ((List S47)) :=
  pG (a0).isEmpty (some []) (chk (([]:List S47).length+a0.length≤140737488355328 / 48) (some a0))
def fU (a:(List S47)):Option ((List S47)) :=
  some a
def fJ (a:(List S47)):Option ((List S47)) :=
  fU a
def aZ (a1:Int) (a2:Int) (a3:Int) (b:(List S47)) (a:Int):Option (((List S47)×Int)⊕(((List S47)))) :=
  if (decide (a<a3))=true then ((at_ b (IntKind.i64.wrap (a2+a))).bind fun c=>((at_ b (IntKind.i64.wrap (a1+a))).bind fun d=>((at_ (b.set (IntKind.i64.wrap (a1+a)).toNat c) (IntKind.i64.wrap (a2+a))).bind fun e=>(some (.inl ((b.set (IntKind.i64.wrap (a1+a)).toNat c).set (IntKind.i64.wrap (a2+a)).toNat d,IntKind.i64.wrap (a+1))))))) else (some (.inr (b)))
def bX (a0:(List S47)) (a1:Int) (a2:Int) (a3:Int):Option ((List S47)) :=
  (loop (fun s=>aZ a1 a2 a3 s.1 s.2) (a0,0)).bind fun t=>fJ t
def eW (a2:Int) (b:(List S47)) (a:Int):Option ((List S47)) :=
  (bX b (IntKind.i64.wrap (a2 - a)) a2 a).bind fun c=>(some c)
def eM (a2:Int) (a:(List S47)) (b:Int):Option ((List S47)) :=
  eW a2 a b
def dL (a:(List S47)) (b:Int) (c:Int):Option (((List S47)×Int×Int)⊕(((List S47)×Int))) :=
  some (.inl (a,b,c))
def bY (a2:Int) (c:(List S47)) (a:Int) (b:Int):Option (((List S47)×Int×Int)⊕(((List S47)×Int))) :=
  if (a != b)=true then (if (decide (b<a))=true then ((bX c (IntKind.i64.wrap (a2 - a)) a2 b).bind fun d=>(dL d (IntKind.i64.wrap (a - b)) b)) else ((bX c (IntKind.i64.wrap (a2 - a)) (IntKind.i64.wrap ((IntKind.i64.wrap (a2+b)) - a)) a).bind fun e=>(dL e a (IntKind.i64.wrap (b - a))))) else (some (.inr (c,a)))
def eF (a0:(List S47)) (a1:Int) (a2:Int) (a3:Int):Option ((List S47)) :=
  (loop (fun s=>bY a2 s.1 s.2.1 s.2.2) (a0,IntKind.i64.wrap (a2 - a1),IntKind.i64.wrap (a3 - a2))).bind fun t=>eM a2 t.1 t.2
def eI (a:(List S47)):Option ((List S47)) :=
  some a
def dX (a:(List S47)):Option ((List S47)) :=
  eI a
def aS (d:Int) (b:(List S47)) (a:Int):Option (((List S47)×Int)⊕(((List S47)))) :=
  if (decide (a<IntKind.i64.wrap (d - 1)))=true then ((at_ b (IntKind.i64.wrap (a+1))).bind fun c=>((at_ b a).bind fun e=>((at_ (b.set a.toNat c) (IntKind.i64.wrap (a+1))).bind fun f=>(some (.inl ((b.set a.toNat c).set (IntKind.i64.wrap (a+1)).toNat e,IntKind.i64.wrap (a+1))))))) else (some (.inr (b)))
def eL (a0:(List S47)) (a1:Int) (a:Int):Option ((List S47)) :=
  (loop (fun s=>aS a s.1 s.2) (a0,a1)).bind fun t=>dX t
def dW (a0:(List S47)) (a1:Int) (a:Int):Option ((List S47)) :=
  eL a0 a1 a
def cX (a:Int) (b:Int):Option ((Int×Int)⊕((Int))) :=
  some (.inl (a,b))
def bE (a0:(List S47)) (a1:Int) (a:Int) (b:Int):Option ((Int×Int)⊕((Int))) :=
  if (decide (a<b))=true then ((at_ a0 (IntKind.i64.wrap (bS .u64 (IntKind.u64.wrap (IntKind.i64.wrap (a+b))) 1))).bind fun c=>((at_ a0 a1).bind fun d=>((iZ c d).bind fun e=>(if (decide (e<0))=true then (cX (IntKind.i64.wrap ((IntKind.i64.wrap (bS .u64 (IntKind.u64.wrap (IntKind.i64.wrap (a+b))) 1))+1)) b) else (cX a (IntKind.i64.wrap (bS .u64 (IntKind.u64.wrap (IntKind.i64.wrap (a+b))) 1))))))) else (some (.inr (a)))
def eK (a:(List S47)):Option ((List S47)) :=
  some a
def dV (a:(List S47)):Option ((List S47)) :=
  eK a
def aR (d:Int) (b:(List S47)) (a:Int):Option (((List S47)×Int)⊕(((List S47)))) :=
  if (decide (d<a))=true then ((at_ b (IntKind.i64.wrap (a - 1))).bind fun c=>((at_ b a).bind fun e=>((at_ (b.set a.toNat c) (IntKind.i64.wrap (a - 1))).bind fun f=>(some (.inl ((b.set a.toNat c).set (IntKind.i64.wrap (a - 1)).toNat e,IntKind.i64.wrap (a - 1))))))) else (some (.inr (b)))
def eN (a0:(List S47)) (a2:Int) (a:Int):Option ((List S47)) :=
  (loop (fun s=>aR a s.1 s.2) (a0,a2)).bind fun t=>dV t
def dY (a0:(List S47)) (a2:Int) (a:Int):Option ((List S47)) :=
  eN a0 a2 a
def cV (a:Int) (b:Int):Option ((Int×Int)⊕((Int))) :=
  some (.inl (a,b))
def bC (a0:(List S47)) (a2:Int) (a:Int) (b:Int):Option ((Int×Int)⊕((Int))) :=
  if (decide (a<b))=true then ((at_ a0 a2).bind fun c=>((at_ a0 (IntKind.i64.wrap (bS .u64 (IntKind.u64.wrap (IntKind.i64.wrap (a+b))) 1))).bind fun d=>((iZ c d).bind fun e=>(if (!(decide (e<0)))=true then (cV (IntKind.i64.wrap ((IntKind.i64.wrap (bS .u64 (IntKind.u64.wrap (IntKind.i64.wrap (a+b))) 1))+1)) b) else (cV a (IntKind.i64.wrap (bS .u64 (IntKind.u64.wrap (IntKind.i64.wrap (a+b))) 1))))))) else (some (.inr (a)))
def cE (rec_:((List S47)→Int→Int→Int→Option ((List S47)))) (a1:Int) (a2:Int) (a3:Int) (b:Int) (a:(List S47)) (c:Bool):Option ((List S47)) :=
  if c=true then ((rec_ a (IntKind.i64.wrap (bS .u64 (IntKind.u64.wrap (IntKind.i64.wrap (a1+a3))) 1)) (IntKind.i64.wrap ((IntKind.i64.wrap ((IntKind.i64.wrap (bS .u64 (IntKind.u64.wrap (IntKind.i64.wrap (a1+a3))) 1))+a2)) - b)) a3).bind fun d=>(some d)) else (some a)
def bQ (rec_:((List S47)→Int→Int→Int→Option ((List S47)))) (a1:Int) (a2:Int) (a3:Int) (a:Int) (b:(List S47)):Option ((List S47)) :=
  if (decide (IntKind.i64.wrap (bS .u64 (IntKind.u64.wrap (IntKind.i64.wrap (a1+a3))) 1)<IntKind.i64.wrap ((IntKind.i64.wrap ((IntKind.i64.wrap (bS .u64 (IntKind.u64.wrap (IntKind.i64.wrap (a1+a3))) 1))+a2)) - a)))=true then (cE rec_ a1 a2 a3 a b (decide (IntKind.i64.wrap ((IntKind.i64.wrap ((IntKind.i64.wrap (bS .u64 (IntKind.u64.wrap (IntKind.i64.wrap (a1+a3))) 1))+a2)) - a)<a3))) else (cE rec_ a1 a2 a3 a b false)
def cB (rec_:((List S47)→Int→Int→Int→Option ((List S47)))) (a1:Int) (a2:Int) (a3:Int) (a:Int) (b:(List S47)) (c:Bool):Option ((List S47)) :=
  if c=true then ((rec_ b a1 a (IntKind.i64.wrap (bS .u64 (IntKind.u64.wrap (IntKind.i64.wrap (a1+a3))) 1))).bind fun d=>(bQ rec_ a1 a2 a3 a d)) else (bQ rec_ a1 a2 a3 a b)
def bP (rec_:((List S47)→Int→Int→Int→Option ((List S47)))) (a1:Int) (a2:Int) (a3:Int) (a:Int) (b:(List S47)):Option ((List S47)) :=
  if (decide (a1<a))=true then (cB rec_ a1 a2 a3 a b (decide (a<IntKind.i64.wrap (bS .u64 (IntKind.u64.wrap (IntKind.i64.wrap (a1+a3))) 1)))) else (cB rec_ a1 a2 a3 a b false)
def cD (rec_:((List S47)→Int→Int→Int→Option ((List S47)))) (a0:(List S47)) (a1:Int) (a2:Int) (a3:Int) (a:Int) (b:Bool):Option ((List S47)) :=
  if b=true then ((eF a0 a a2 (IntKind.i64.wrap ((IntKind.i64.wrap ((IntKind.i64.wrap (bS .u64 (IntKind.u64.wrap (IntKind.i64.wrap (a1+a3))) 1))+a2)) - a))).bind fun c=>(bP rec_ a1 a2 a3 a c)) else (bP rec_ a1 a2 a3 a a0)
def dA (rec_:((List S47)→Int→Int→Int→Option ((List S47)))) (a0:(List S47)) (a1:Int) (a2:Int) (a3:Int) (a:Int):Option ((List S47)) :=
  if (decide (a<a2))=true then (cD rec_ a0 a1 a2 a3 a (decide (a2<IntKind.i64.wrap ((IntKind.i64.wrap ((IntKind.i64.wrap (bS .u64 (IntKind.u64.wrap (IntKind.i64.wrap (a1+a3))) 1))+a2)) - a)))) else (cD rec_ a0 a1 a2 a3 a false)
def dU (rec_:((List S47)→Int→Int→Int→Option ((List S47)))) (a0:(List S47)) (a1:Int) (a2:Int) (a3:Int) (a:Int):Option ((List S47)) :=
  dA rec_ a0 a1 a2 a3 a
def cY (a:Int) (b:Int):Option ((Int×Int)⊕((Int))) :=
  some (.inl (a,b))
def bF (a0:(List S47)) (a1:Int) (a2:Int) (a3:Int) (a:Int) (b:Int):Option ((Int×Int)⊕((Int))) :=
  if (decide (a<b))=true then ((at_ a0 (IntKind.i64.wrap ((IntKind.i64.wrap ((IntKind.i64.wrap ((IntKind.i64.wrap (bS .u64 (IntKind.u64.wrap (IntKind.i64.wrap (a1+a3))) 1))+a2)) - 1)) - (IntKind.i64.wrap (bS .u64 (IntKind.u64.wrap (IntKind.i64.wrap (a+b))) 1))))).bind fun c=>((at_ a0 (IntKind.i64.wrap (bS .u64 (IntKind.u64.wrap (IntKind.i64.wrap (a+b))) 1))).bind fun d=>((iZ c d).bind fun e=>(if (!(decide (e<0)))=true then (cY (IntKind.i64.wrap ((IntKind.i64.wrap (bS .u64 (IntKind.u64.wrap (IntKind.i64.wrap (a+b))) 1))+1)) b) else (cY a (IntKind.i64.wrap (bS .u64 (IntKind.u64.wrap (IntKind.i64.wrap (a+b))) 1))))))) else (some (.inr (a)))
def cF (rec_:((List S47)→Int→Int→Int→Option ((List S47)))) (a0:(List S47)) (a1:Int) (a2:Int) (a3:Int) (a:Int) (b:Int):Option ((List S47)) :=
  (loop (fun s=>bF a0 a1 a2 a3 s.1 s.2) (a,b)).bind fun t=>dU rec_ a0 a1 a2 a3 t
def aT (rec_:(List S47)→Int→Int→Int→Option ((List S47))) (a0:(List S47)) (a1:Int) (a2:Int) (a3:Int):Option ((List S47)) :=
  if ((IntKind.i64.wrap (a2 - a1))==1)=true then ((loop (fun s=>bE a0 a1 s.1 s.2) (a2,a3)).bind fun t=>dW a0 a1 t) else (if ((IntKind.i64.wrap (a3 - a2))==1)=true then ((loop (fun s=>bC a0 a2 s.1 s.2) (a1,a2)).bind fun t=>dY a0 a2 t) else (if (decide (IntKind.i64.wrap (bS .u64 (IntKind.u64.wrap (IntKind.i64.wrap (a1+a3))) 1)<a2))=true then (cF rec_ a0 a1 a2 a3 (IntKind.i64.wrap ((IntKind.i64.wrap ((IntKind.i64.wrap (bS .u64 (IntKind.u64.wrap (IntKind.i64.wrap (a1+a3))) 1))+a2)) - a3)) (IntKind.i64.wrap (bS .u64 (IntKind.u64.wrap (IntKind.i64.wrap (a1+a3))) 1))) else (cF rec_ a0 a1 a2 a3 a1 a2)))
def aE:Nat→(List S47)→Int→Int→Int→Option ((List S47))
  | 0=>fun _ _ _ _=>none
  | k+1=>aT (aE k)
def dR:(List S47)→Int→Int→Int→Option ((List S47)):=aE 64
def fC (a:(List S47)):Option ((List S47)) :=
  some a
def eT (a:(List S47)):Option ((List S47)) :=
  fC a
def dE (a:Int) (b:(List S47)):Option (((List S47)×Int)⊕(((List S47)))) :=
  some (.inl (b,IntKind.i64.wrap (a+1)))
def cN (a:Int) (b:(List S47)):Option (((List S47)×Int)⊕(((List S47)))) :=
  dE a b
def cG (b:(List S47)) (a:Int) (d:Bool):Option (((List S47)×Int)⊕(((List S47)))) :=
  if d=true then ((at_ b (IntKind.i64.wrap (a - 1))).bind fun c=>((at_ b a).bind fun e=>((at_ (b.set a.toNat c) (IntKind.i64.wrap (a - 1))).bind fun f=>(some (.inl ((b.set a.toNat c).set (IntKind.i64.wrap (a - 1)).toNat e,IntKind.i64.wrap (a - 1))))))) else (some (.inr (b)))
def aP (a1:Int) (b:(List S47)) (a:Int):Option (((List S47)×Int)⊕(((List S47)))) :=
  if (decide (a1<a))=true then ((at_ b a).bind fun c=>((at_ b (IntKind.i64.wrap (a - 1))).bind fun d=>((iZ c d).bind fun e=>(cG b a (decide (e<0)))))) else (cG b a false)
def aG (a1:Int) (a2:Int) (b:(List S47)) (a:Int):Option (((List S47)×Int)⊕(((List S47)))) :=
  if (decide (a<a2))=true then ((loop (fun s=>aP a1 s.1 s.2) (b,a)).bind fun t=>cN a t) else (some (.inr (b)))
def cA (a0:(List S47)) (a1:Int) (a2:Int):Option ((List S47)) :=
  (loop (fun s=>aG a1 a2 s.1 s.2) (a0,IntKind.i64.wrap (a1+1))).bind fun t=>eT t
def gR (a:(List S47)):Option ((List S47)) :=
  some a
def gE (a:(List S47)):Option ((List S47)) :=
  gR a
def dN (a:Int) (b:(List S47)):Option (((List S47)×Int)⊕(((List S47)))) :=
  some (.inl (b,IntKind.i64.wrap (a * 2)))
def eV (a1:Int) (a:Int) (c:(List S47)) (b:Int):Option (((List S47)×Int)⊕(((List S47)))) :=
  if (decide (IntKind.i64.wrap (b+a)<a1))=true then ((dR c b (IntKind.i64.wrap (b+a)) a1).bind fun d=>(dN a d)) else (dN a c)
def eQ (a1:Int) (a:Int) (b:(List S47)) (c:Int):Option (((List S47)×Int)⊕(((List S47)))) :=
  eV a1 a b c
def bU (a1:Int) (c:Int) (d:(List S47)) (b:Int) (a:Int):Option (((List S47)×Int×Int)⊕(((List S47)×Int))) :=
  if (decide (a≤a1))=true then ((dR d b (IntKind.i64.wrap (b+c)) a).bind fun e=>(some (.inl (e,a,IntKind.i64.wrap (a+(IntKind.i64.wrap (2 * c))))))) else (some (.inr (d,b)))
def bV (a1:Int) (b:(List S47)) (a:Int):Option (((List S47)×Int)⊕(((List S47)))) :=
  if (decide (a<a1))=true then ((loop (fun s=>bU a1 a s.1 s.2.1 s.2.2) (b,0,IntKind.i64.wrap (2 * a))).bind fun t=>eQ a1 a t.1 t.2) else (some (.inr (b)))
def eX (a1:Int) (a:(List S47)) (b:Int):Option ((List S47)) :=
  (cA a b a1).bind fun c=>((loop (fun s=>bV a1 s.1 s.2) (c,20)).bind fun t=>gE t)
def eO (a1:Int) (a:(List S47)) (b:Int):Option ((List S47)) :=
  eX a1 a b
def bW (a1:Int) (b:(List S47)) (c:Int) (a:Int):Option (((List S47)×Int×Int)⊕(((List S47)×Int))) :=
  if (decide (a≤a1))=true then ((cA b c a).bind fun d=>(some (.inl (d,a,IntKind.i64.wrap (a+20))))) else (some (.inr (b,c)))
def eE (a0:(List S47)) (a1:Int):Option ((List S47)) :=
  (loop (fun s=>bW a1 s.1 s.2.1 s.2.2) (a0,0,20)).bind fun t=>eO a1 t.1 t.2
def dB (a0:(List S47)):Option ((List S47)) :=
  (eE a0 (a0.length:Int)).bind fun a=>(some a)
def wY (a0:(List S47)):Option ((List S47)) :=
  (fF a0).bind fun a=>((dB a).bind fun b=>(some b))
end
end Go.Proofs.YtnefioccdkmegaaGreatDoor.M
