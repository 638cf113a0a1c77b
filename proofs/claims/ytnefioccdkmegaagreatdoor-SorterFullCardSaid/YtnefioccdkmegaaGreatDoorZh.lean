/- Texts of the claim, joined: what it uses of Mmg, Vx, Dhp, Mhp, Vi, Dito, Mito, Dfa, Mfa, Ha, Dfb. -/
import Derived.Test.YtnefioccdkmegaaGreatDoorZg
import Derived.Test.YtnefioccdkmegaaGreatDoorProg
import Derived.IntWalk
import Derived.Shelf.Strconv.Itoa3
namespace Go.Proofs.YtnefioccdkmegaaGreatDoor.M
open Go Go.RowKit Go.Proofs.YtnefioccdkmegaaGreatDoor.E
set_option linter.unusedVariables false
set_option maxRecDepth 100000
set_option maxHeartbeats 4000000
set_option linter.unusedSimpArgs false
section
variable {r:World} {L:List HP} {w:World} {Z:Nat→Prop} {wz:World}
theorem wU {a0 a1 a2 g0 y} (G:kJ a0 a1 a2=some y) (X:SH r (obj151 Z wz g0 a0::L) w) (qz:Nat) (hZ:L[qz]?=some (zone Z wz)) :
  Ret Tryz.prog 95 #[.pointer (some ⟨g0,0,none⟩),.int .i64 a1,.int .i64 a2] w fun v w'=>v=.bool y.1∧SH r (obj151 Z wz g0 y.2::L) w':=by
 refine enter Tryz.func95 rfl Tryz.ntmps95 [(0,_),(1,_),(2,_)] rfl (by simp) ?_
 intro U J Qf hQ hQn
 unfold kJ at G
 obtain⟨c,g,i,C,D,E,X⟩:=xF X
 refine nz 1 J rfl fun U J=>wp_seq_k fun b5 M=>cP [0,1,3,7,0,31,63,0,128,384,896,0,3968,8064,127,32767] [] rfl J X (by kernel_rfl) (by kernel_rfl) (by kernel_rfl) (by kernel_rfl) fun w X=>?_
 obtain⟨N,F,G⟩:=bnd G
 obtain⟨cs,hV,O⟩:=el (X.rd 1 rfl) F
 obtain⟨e,m,n,rfl,k⟩:=hV
 obtain⟨H,I,G⟩:=bnd G
 obtain⟨cs,hV,P⟩:=el (X.rd 1 rfl) I
 obtain⟨f,o,p,rfl,l⟩:=hV
 refine⟨[(0,(pP g0)),(1,(pP g0)),(2,(pP g0)),(3,.slice c g i),(4,.int .i64 a1),(5,.pointer (some (ea c (a1.toNat * 1)))),(6,.slice e m n),(7,(pP g0)),(8,(pP g0)),(9,(pP g0)),(10,.slice c g i),(11,.int .i64 a2),(12,.pointer (some (ea c (a2.toNat * 1)))),(13,.slice f o p),(14,.slice e m n),(15,.slice f o p)],?_⟩
 refine gK [0,1,2,3,4,5,6,7,8,9,10,11,12,13,14,15] (by kernel_rfl) ⟨pm rfl,pt [(9,(pP g0))] rfl (fun U J=>dC rfl (J.ev rfl)),pt [(10,(pP g0))] rfl (fun U J=>eR vT J rfl rfl),pt [(11,(pP g0))] rfl (fun U J=>cM qM (X.cell 0 rfl 0 _ rfl) J rfl rfl rfl),pm rfl,pt [(12,.slice c g i),(13,.int .i64 a1)] rfl (fun U J=>fH qM aDa (X.rd 1 rfl) F J rfl rfl rfl),pt [(14,.pointer (some (ea c (a1.toNat * 1))))] rfl (fun U J=>cM eG (O 0 _ rfl) J rfl rfl rfl),pm rfl,pt [(16,(pP g0))] rfl (fun U J=>dC rfl (J.ev rfl)),pt [(17,(pP g0))] rfl (fun U J=>eR vT J rfl rfl),pt [(18,(pP g0))] rfl (fun U J=>cM qM (X.cell 0 rfl 0 _ rfl) J rfl rfl rfl),pm rfl,pt [(19,.slice c g i),(20,.int .i64 a2)] rfl (fun U J=>fH qM aDa (X.rd 1 rfl) I J rfl rfl rfl),pt [(21,.pointer (some (ea c (a2.toNat * 1))))] rfl (fun U J=>cM eG (P 0 _ rfl) J rfl rfl rfl),pm rfl,pm rfl,trivial⟩ ⟨by kernel_rfl,by kernel_rfl⟩ [(0,_),(1,_),(2,_),(7,_),(8,_)] rfl (fun U J=>?_)
 refine M _ _ (wp_seq_k fun b6 Q=>?_)
 refine aA fun b7 R=>wp_seq_k fun S T=>?_
 have hj1:∀A,jP a0 a1 a2 N H A=some y→∀U w,FR 64 [] U [(0,(pP g0)),(1,.int .i64 a1),(2,.int .i64 a2),(7,.slice e m n),(8,.slice f o p),(23,.bool A)]→SH r (blk g0 151 [.slice c g i,.slice C D E]::own (kM Z wz k47) 22 c g i a0.f0::own (kI .i64) 3 C D E a0.f1::L) w→S U w:=by
  intro A G U w J X
  unfold jP at G
  refine T _ _ (bA J G rfl (fun W G=>?_) fun W G=>?_)
  ·refine ws fun b8 B=>xk 1 J rfl fun U J=>aU eG (X.rdl 3 (k.rdl qz hZ) rfl).2.1 J (fun U J=>?_) rfl
   refine xk 2 J rfl fun U J=>bcG G (fun d G=>?_) fun d G=>?_
   ·refine ng 10 d J rfl rfl fun U J=>?_
    replace X:=nE (x:=a0) (X.pk 2 |>.pk 2 |>.pk 2)
    cases G
    refine B _ _ (wp_ret ?_)
    refine hQ _ _ (lv Tryz.results95 J rfl ?_)
    exact⟨rfl,X⟩
   refine xg 1 d J rfl rfl fun U J=>aJ d J ?_ rfl
   refine aU eG (X.rdl 3 (l.rdl qz hZ) rfl).2.1 J (fun U J=>?_) rfl
   refine xg 2 d J rfl rfl fun U J=>bcG G (fun q G=>?_) fun q G=>?_
   ·refine xg 3 q J rfl rfl fun U J=>aJ d J ?_ rfl
    refine xg 1 q J rfl rfl fun U J=>ng 2 d J rfl rfl fun U J=>?_
    replace X:=nE (x:=a0) (X.pk 2 |>.pk 2 |>.pk 2)
    cases G
    refine B _ _ (wp_ret ?_)
    refine hQ _ _ (lv Tryz.results95 J rfl ?_)
    exact⟨rfl,X⟩
   refine xg 3 q J rfl rfl fun U J=>aJ d J ?_ rfl
   refine xg 1 q J rfl rfl fun U J=>ng 2 d J rfl rfl fun U J=>?_
   replace X:=nE (x:=a0) (X.pk 2 |>.pk 2 |>.pk 2)
   cases G
   refine B _ _ (wp_ret ?_)
   refine hQ _ _ (lv Tryz.results95 J rfl ?_)
   exact⟨rfl,X⟩
  refine wp_seq_k fun b9 Y=>cP [0,1,3,0,8,24,63,127] [6] rfl J X (by kernel_rfl) (by kernel_rfl) (by kernel_rfl) (by kernel_rfl) fun w X=>?_
  obtain⟨a,t,G⟩:=bnd G
  obtain⟨cs,hV,a3⟩:=el (X.rdl 3 (k.rdl qz hZ) rfl) t
  obtain rfl:=hV
  obtain⟨b,z,G⟩:=bnd G
  obtain⟨cs,hV,a4⟩:=el (X.rdl 3 (l.rdl qz hZ) rfl) z
  obtain rfl:=hV
  refine⟨[(0,.slice e m n),(1,.pointer (some (ea e ((0:Int).toNat * 5)))),(2,.agg #[.int .u64 a.f0,.int .i64 a.f1,.int .i64 a.f2,str a.f3,.float .f64 a.f4]),(3,.slice f o p),(4,.pointer (some (ea f ((0:Int).toNat * 5)))),(5,.agg #[.int .u64 b.f0,.int .i64 b.f1,.int .i64 b.f2,str b.f3,.float .f64 b.f4])],?_⟩
  refine dF [0,1,2,3,4,5] [6] (by kernel_rfl) ⟨pm rfl,pt [(46,_)] rfl (fun U J=>fH eG cH (X.rdl 3 (k.rdl qz hZ) rfl) t J rfl rfl rfl),pt [(47,_)] rfl (fun U J=>nL (cs:=[.int .u64 a.f0,.int .i64 a.f1,.int .i64 a.f2,str a.f3,.float .f64 a.f4]) lL cH (fun j u h=>by rw [eU]; exact a3 _ _ h) J rfl rfl rfl),pm rfl,pt [(49,_)] rfl (fun U J=>fH eG cH (X.rdl 3 (l.rdl qz hZ) rfl) z J rfl rfl rfl),pt [(50,_)] rfl (fun U J=>nL (cs:=[.int .u64 b.f0,.int .i64 b.f1,.int .i64 b.f2,str b.f3,.float .f64 b.f4]) lL cH (fun j u h=>by rw [eU]; exact a4 _ _ h) J rfl rfl rfl),trivial⟩ ⟨et [(48,_),(51,_)] rfl (fun U J K hK=>?_),trivial⟩
  obtain⟨a5,a6,G⟩:=bnd G
  refine nQ aQ2 J (tB a6 X :) (fun v w hR=>?_) rfl
  obtain⟨rfl,X⟩:=hR
  refine hK _ [(7,.bool a5)] _ rfl (gK [7] (by kernel_rfl) ⟨pm rfl,trivial⟩ ⟨by kernel_rfl,by kernel_rfl⟩ [(0,_),(1,_),(2,_),(7,_),(8,_),(45,_)] rfl (fun U J=>?_))
  refine Y _ _ (bA J G rfl (fun a7 G=>?_) fun a7 G=>?_)
  ·refine nz 1 J rfl fun U J=>?_
   replace X:=nE (x:=a0) (X.pk 2 |>.pk 2 |>.pk 2)
   cases G
   refine wp_ret (hQ _ _ ?_)
   exact lv Tryz.results95 J rfl ⟨rfl,X⟩
  refine wp_seq_k fun c0 a8=>cP [0,1,3,0,8,24,63,127] [6] rfl J X (by kernel_rfl) (by kernel_rfl) (by kernel_rfl) (by kernel_rfl) fun w X=>?_
  obtain⟨cs,hV,a9⟩:=el (X.rdl 3 (l.rdl qz hZ) rfl) z
  obtain rfl:=hV
  obtain⟨cs,hV,b1⟩:=el (X.rdl 3 (k.rdl qz hZ) rfl) t
  obtain rfl:=hV
  refine⟨[(0,.slice f o p),(1,.pointer (some (ea f ((0:Int).toNat * 5)))),(2,.agg #[.int .u64 b.f0,.int .i64 b.f1,.int .i64 b.f2,str b.f3,.float .f64 b.f4]),(3,.slice e m n),(4,.pointer (some (ea e ((0:Int).toNat * 5)))),(5,.agg #[.int .u64 a.f0,.int .i64 a.f1,.int .i64 a.f2,str a.f3,.float .f64 a.f4])],?_⟩
  refine dF [0,1,2,3,4,5] [6] (by kernel_rfl) ⟨pm rfl,pt [(54,_)] rfl (fun U J=>fH eG cH (X.rdl 3 (l.rdl qz hZ) rfl) z J rfl rfl rfl),pt [(55,_)] rfl (fun U J=>nL (cs:=[.int .u64 b.f0,.int .i64 b.f1,.int .i64 b.f2,str b.f3,.float .f64 b.f4]) lL cH (fun j u h=>by rw [eU]; exact a9 _ _ h) J rfl rfl rfl),pm rfl,pt [(57,_)] rfl (fun U J=>fH eG cH (X.rdl 3 (k.rdl qz hZ) rfl) t J rfl rfl rfl),pt [(58,_)] rfl (fun U J=>nL (cs:=[.int .u64 a.f0,.int .i64 a.f1,.int .i64 a.f2,str a.f3,.float .f64 a.f4]) lL cH (fun j u h=>by rw [eU]; exact b1 _ _ h) J rfl rfl rfl),trivial⟩ ⟨et [(56,_),(59,_)] rfl (fun U J K hK=>?_),trivial⟩
  obtain⟨b2,b3,G⟩:=bnd G
  refine nQ aQ2 J (tB b3 X :) (fun v w hR=>?_) rfl
  obtain⟨rfl,X⟩:=hR
  refine hK _ [(7,.bool b2)] _ rfl (gK [7] (by kernel_rfl) ⟨pm rfl,trivial⟩ ⟨by kernel_rfl,by kernel_rfl⟩ [(0,_),(1,_),(2,_),(53,_)] rfl (fun U J=>?_))
  refine a8 _ _ (bA J G rfl (fun b4 G=>?_) fun b4 G=>?_)
  ·refine nz 1 J rfl fun U J=>?_
   replace X:=nE (x:=a0) (X.pk 2 |>.pk 2 |>.pk 2)
   cases G
   refine wp_ret (hQ _ _ ?_)
   exact lv Tryz.results95 J rfl ⟨rfl,X⟩
  refine wp_skip (R _ _ ?_)
  refine Q _ _ (nz 4 J rfl fun U J=>?_)
  replace X:=nE (x:=a0) (X.pk 2 |>.pk 2 |>.pk 2)
  cases G
  refine wp_ret (hQ _ _ ?_)
  exact lv Tryz.results95 J rfl ⟨rfl,X⟩
 refine aC (x_m J rfl fun U J=>?_)
 refine aU eG (X.rdl 3 (k.rdl qz hZ) rfl).2.1 J (fun U J=>?_) rfl
 refine xk 2 J rfl fun U J=>bcG G (fun s G=>?_) fun s G=>?_
 ·exact ng 5 s J rfl rfl fun U J=>hj1 true G U w (J.sub _ rfl) X
 refine xg 1 s J rfl rfl fun U J=>aJ s J ?_ rfl
 refine aU eG (X.rdl 3 (l.rdl qz hZ) rfl).2.1 J (fun U J=>?_) rfl
 exact ng 3 s J rfl rfl fun U J=>hj1 ((H.length:Int)==0) G U w (J.sub _ rfl) X
theorem aKn {a0 A0 n0 c0 y} (G:tT a0=some y) (X:SH r (L) w) (qz:Nat) (hZ:L[qz]?=some (zone Z wz)) (ha0:RdL L (kM Z wz k47) A0 n0 c0 a0) :
  Ret Tryz.prog 72 #[.slice A0 n0 c0] w fun v w'=>∃ (p0:Option Addr),v=.tuple #[(.pointer p0),(.int .i64 y.2)]∧SH r (sS (obj151 Z wz) p0 y.1::L) w':=by
 refine enter Tryz.func72 rfl Tryz.ntmps72 [(0,_)] rfl (by simp) ?_
 intro U J Qf hQ hQn
 unfold tT at G
 refine nz 2 J rfl fun U J=>wp_seq_k fun p7 h3=>wp_seq_k fun h4 h5=>?_
 have hj1:∀d3,tD a0 d3=some y→∀U w,FR 125 [] U [(0,.slice A0 n0 c0),(21,.bool d3)]→SH r (L) w→h4 U w:=by
  intro d3 G U w J X
  unfold tD at G
  refine h5 _ _ (bA J G rfl (fun h6 G=>?_) fun h6 G=>?_)
  ·refine nz 2 J rfl fun U J=>?_
   replace X:=SH.optN (obj151 Z wz) X
   cases G
   refine wp_ret (hQ _ _ ?_)
   exact lv2 Tryz.results72 J rfl rfl ⟨none,rfl,X⟩
  refine wp_skip (h3 _ _ ?_)
  refine ws fun p8 h7=>x_v (v:=.agg #[.slice none 0 0,.slice none 0 0]) J (qB (ps:=#[]) rfl (sB J rfl) (fun w=>by kernel_rfl)) rfl fun U J=>mY J X (fun a U w X J=>?_) rfl
  refine x_m J rfl fun U J=>wn (h7 _ _ ?_)
  refine wp_seq_k fun p9 h8=>ws fun q0 h9=>xk 1 J rfl fun U J=>aU qM (X.rdl 1 ha0 rfl).2.1 J (fun U J=>?_) rfl
  refine x_m J rfl fun U J=>wn (h9 _ _ ?_)
  refine aA fun e4 i0=>?_
  have hb1:∀z,vF a0 z=some y→∀g i k U w,FR 125 [] U [(0,.slice A0 n0 c0),(4,(pP a))]→SH r (blk a 151 [.slice g i k,.slice none 0 0]::own (kM Z wz k47) 22 g i k z::L) w→e4 U w:=by
   intro z G g i k U w J X
   unfold vF at G
   refine i0 _ _ (h8 _ _ ?_)
   refine ws fun q1 i1=>xk 1 J rfl fun U J=>aU qM (X.rdl 2 ha0 rfl).2.1 J (fun U J=>?_) rfl
   refine x_m J rfl fun U J=>wn (i1 _ _ ?_)
   refine ws fun q2 i2=>xk 2 J rfl fun U J=>?_
   obtain⟨i3,G⟩:=aB G
   refine aF7 (d:=(kI .i64)) (bytes:=8) 0 aXx rfl wQ i3 J X (fun C U w X J=>?_) rfl
   refine xk 1 J rfl fun U J=>aL wA J (fun U J=>?_) rfl
   refine dH 1 bCc J X rfl (fun  U w X J=>?_) rfl
   refine wn (i2 _ _ ?_)
   refine ws fun q3 i4=>xk 2 J rfl fun U J=>?_
   obtain⟨i5,G⟩:=aB G
   refine aF7 (d:=(kI .i64)) (bytes:=8) 0 aXx rfl wQ i5 J X (fun b U w X J=>?_) rfl
   refine x_m J rfl fun U J=>wn (i4 _ _ ?_)
   refine wp_seq_k fun q4 i6=>nz 2 J rfl fun U J=>aA fun e5 i7=>?_
   have hb2:∀d4,vU a0 z d4=some y→∀U w,FR 125 [] U [(4,(pP a)),(8,.int .i64 (a0.length:Int)),(9,.slice (some ⟨b,0,none⟩) ((IntKind.i64.wrap (2 * (a0.length:Int))).toNat) ((IntKind.i64.wrap (2 * (a0.length:Int))).toNat))]→SH r (blk a 151 [.slice g i k,.slice (some ⟨C,0,none⟩) ((a0.length:Int).toNat) ((a0.length:Int).toNat)]::own (kM Z wz k47) 22 g i k z::own (kI .i64) 3 (some ⟨C,0,none⟩) ((a0.length:Int).toNat) ((a0.length:Int).toNat) (List.replicate (a0.length:Int).toNat (0:Int))::own (kI .i64) 3 (some ⟨b,0,none⟩) ((IntKind.i64.wrap (2 * (a0.length:Int))).toNat) ((IntKind.i64.wrap (2 * (a0.length:Int))).toNat) d4::L) w→e5 U w:=by
    intro d4 G U w J X
    unfold vU at G
    refine i7 _ _ (i6 _ _ ?_)
    refine wp_seq_k fun q5 i8=>nz 3 J rfl fun U J=>aA fun e6 i9=>?_
    have hb3:∀W Y d5,vR a0 W Y d5=some y→∀d6 d7 d8 I a1 a2 U w,FR 125 [] U [(4,(pP a)),(8,.int .i64 (a0.length:Int)),(9,.slice (some ⟨b,0,none⟩) ((IntKind.i64.wrap (2 * (a0.length:Int))).toNat) ((IntKind.i64.wrap (2 * (a0.length:Int))).toNat))]→SH r (blk a 151 [.slice d6 d7 d8,.slice I a1 a2]::own (kM Z wz k47) 22 d6 d7 d8 W::own (kI .i64) 3 I a1 a2 Y::own (kI .i64) 3 (some ⟨b,0,none⟩) ((IntKind.i64.wrap (2 * (a0.length:Int))).toNat) ((IntKind.i64.wrap (2 * (a0.length:Int))).toNat) d5::L) w→e6 U w:=by
     intro W Y d5 G d6 d7 d8 I a1 a2 U w J X
     unfold vR at G
     refine i9 _ _ (i8 _ _ ?_)
     refine wp_seq_k fun q6 j0=>cP [0,1,3,7,0,0,32,96,224,496,1008,2047,4095] [12] rfl J X (by kernel_rfl) (by kernel_rfl) (by kernel_rfl) (by kernel_rfl) fun w X=>?_
     obtain⟨a3,e7,G⟩:=bnd G
     obtain⟨cs,hV,j1⟩:=el (X.rd 3 rfl) e7
     obtain rfl:=hV
     obtain⟨q7,e8,G⟩:=bnd G
     refine⟨[(0,(pP a)),(1,(pP a)),(2,.pointer (some ⟨a,1,none⟩)),(3,.slice I a1 a2),(4,.slice (some ⟨b,0,none⟩) ((IntKind.i64.wrap (2 * (a0.length:Int))).toNat) ((IntKind.i64.wrap (2 * (a0.length:Int))).toNat)),(5,.int .i64 (a0.length:Int)),(6,.int .i64 (IntKind.i64.wrap (2 * (a0.length:Int)))),(7,.int .i64 (IntKind.i64.wrap ((IntKind.i64.wrap (2 * (a0.length:Int))) - 1))),(8,.int .i64 (if IntKind.i64.wrap ((IntKind.i64.wrap (2 * (a0.length:Int))) - 1)<1 then IntKind.i64.wrap ((IntKind.i64.wrap (2 * (a0.length:Int))) - 1) else 1)),(9,.pointer (some (ea (some ⟨b,0,none⟩) ((if IntKind.i64.wrap ((IntKind.i64.wrap (2 * (a0.length:Int))) - 1)<1 then IntKind.i64.wrap ((IntKind.i64.wrap (2 * (a0.length:Int))) - 1) else 1).toNat * 1)))),(10,.int .i64 a3),(11,.pointer (some (ea I ((0:Int).toNat * 1))))],?_⟩
     refine dF [0,1,2,3,4,5,6,7,8,9,10,11] [12] (by kernel_rfl) ⟨pm rfl,pt [(112,_)] rfl (fun U J=>dC rfl (J.ev rfl)),pt [(113,_)] rfl (fun U J=>eR wA J rfl rfl),pt [(114,_)] rfl (fun U J=>cM wQ (X.cell 0 rfl 1 _ rfl) J rfl rfl rfl),pm rfl,pm rfl,pt [(117,_)] rfl (fun U J=>aN0 rfl (J.ev rfl) (J.ev rfl)),pt [(118,_)] rfl (fun U J=>oZ rfl (J.ev rfl) (J.ev rfl)),pt [(119,_)] rfl (fun U J=>aJa rfl (J.ev rfl) (J.ev rfl)),pt [(116,_),(120,_)] rfl (fun U J=>fH wQ sz3 (X.rd 3 rfl) e7 J rfl rfl rfl),pt [(121,_)] rfl (fun U J=>cM uu3 (j1 0 _ rfl) J rfl rfl rfl),pt [(115,_)] rfl (fun U J=>fH wQ sz3 (X.rd 2 rfl) e8 J rfl rfl rfl),trivial⟩ ⟨et [(122,_),(123,_)] rfl (fun U J K hK=>?_),trivial⟩
     refine xD (z':=a3) (off:=0) (vs:=[.int .i64 a3]) 2 sz3 J X rfl (dQ e8).2.2 (fun c h=>by cases h; rfl) (fun  w X=>?_) rfl rfl rfl rfl rfl rfl
     refine hK _ [] _ rfl (gK [] (by kernel_rfl) trivial ⟨by kernel_rfl,by kernel_rfl⟩ [(4,_)] rfl (fun U J=>?_))
     refine j0 _ _ (nz 3 J rfl fun U J=>?_)
     replace X:=X.pk 2 |>.pk 2
     replace X:=(SH.optS (nE (x:=(⟨W,Y.set (0:Int).toNat a3⟩:S151)) X)).drop 1
     cases G
     refine wp_ret (hQ _ _ ?_)
     exact lv2 Tryz.results72 J rfl rfl ⟨some ⟨a,0,none⟩,rfl,X⟩
    obtain⟨j2,j3,G⟩:=bnd G
    have j4:∀M N O,(M,N,O)=j2→∀a4 a5 a6 a7 a8 a9 U w,FR 125 [] U [(4,(pP a)),(8,.int .i64 (a0.length:Int)),(9,.slice (some ⟨b,0,none⟩) ((IntKind.i64.wrap (2 * (a0.length:Int))).toNat) ((IntKind.i64.wrap (2 * (a0.length:Int))).toNat))]→SH r (blk a 151 [.slice a4 a5 a6,.slice a7 a8 a9]::own (kM Z wz k47) 22 a4 a5 a6 M::own (kI .i64) 3 a7 a8 a9 N::own (kI .i64) 3 (some ⟨b,0,none⟩) ((IntKind.i64.wrap (2 * (a0.length:Int))).toNat) ((IntKind.i64.wrap (2 * (a0.length:Int))).toNat) O::L) w→e6 U w:=by
     intro M N O ht a4 a5 a6 a7 a8 a9 U w J X
     subst ht
     replace G:sO a0 M N O=some y:=G
     unfold sO at G
     exact hb3 M N O G a4 a5 a6 a7 a8 a9 U w (J.sub _ rfl) X
    refine aD j3 (fun s U w=>∃b1 b2 b3 b4 b5 b6,FR 125 [] U [(4,(pP a)),(8,.int .i64 (a0.length:Int)),(9,.slice (some ⟨b,0,none⟩) ((IntKind.i64.wrap (2 * (a0.length:Int))).toNat) ((IntKind.i64.wrap (2 * (a0.length:Int))).toNat)),(11,.int .i64 s.2.2.2)]∧SH r (blk a 151 [.slice b1 b2 b3,.slice b4 b5 b6]::own (kM Z wz k47) 22 b1 b2 b3 s.1::own (kI .i64) 3 b4 b5 b6 s.2.1::own (kI .i64) 3 (some ⟨b,0,none⟩) ((IntKind.i64.wrap (2 * (a0.length:Int))).toNat) ((IntKind.i64.wrap (2 * (a0.length:Int))).toNat) s.2.2.1::L) w) ⟨g,i,k,(some ⟨C,0,none⟩),(a0.length:Int).toNat,(a0.length:Int).toNat,J.sub _ rfl,X⟩ ?_
    intro q8 j5 e9 G j6 j7 U w hLab
    obtain⟨d9,e0,b7,f⟩:=j5
    replace G:lY d9 e0 b7 f=some e9:=G
    unfold lY at G
    try dsimp only at hLab
    obtain⟨b1,b2,b3,b4,b5,b6,J,X⟩:=hLab
    refine wp_seq_k fun q9 j8=>nz 2 J rfl fun U J=>bA J G rfl (fun j9 G=>?_) fun j9 G=>?_
    ·refine wp_skip (j8 _ _ ?_)
     refine wp_seq_k fun r0 k0=>aA fun r1 k1=>wp_seq_k fun r2 k2=>cP [0,0,2,7,15,0,0,64,192,480,992,31,4095] [] rfl J X (by kernel_rfl) (by kernel_rfl) (by kernel_rfl) (by kernel_rfl) fun w X=>?_
     obtain⟨b8,f5,G⟩:=bnd G
     obtain⟨cs,hV,k3⟩:=el (X.rd 3 rfl) f5
     obtain rfl:=hV
     obtain⟨b9,f6,G⟩:=bnd G
     obtain⟨cs,hV,k4⟩:=el (X.rd 3 rfl) f6
     obtain rfl:=hV
     refine⟨[(0,.slice (some ⟨b,0,none⟩) ((IntKind.i64.wrap (2 * (a0.length:Int))).toNat) ((IntKind.i64.wrap (2 * (a0.length:Int))).toNat)),(1,.int .i64 f),(2,.int .i64 (IntKind.i64.wrap (2 * f))),(3,.pointer (some (ea (some ⟨b,0,none⟩) ((IntKind.i64.wrap (2 * f)).toNat * 1)))),(4,.int .i64 b8),(5,.slice (some ⟨b,0,none⟩) ((IntKind.i64.wrap (2 * (a0.length:Int))).toNat) ((IntKind.i64.wrap (2 * (a0.length:Int))).toNat)),(6,.int .i64 f),(7,.int .i64 (IntKind.i64.wrap (2 * f))),(8,.int .i64 (IntKind.i64.wrap ((IntKind.i64.wrap (2 * f))+1))),(9,.pointer (some (ea (some ⟨b,0,none⟩) ((IntKind.i64.wrap ((IntKind.i64.wrap (2 * f))+1)).toNat * 1)))),(10,.int .i64 b9),(11,.int .i64 b8),(12,.int .i64 b9)],?_⟩
     refine gK [0,1,2,3,4,5,6,7,8,9,10,11,12] (by kernel_rfl) ⟨pm rfl,pm rfl,pt [(85,.int .i64 f)] rfl (fun U J=>aN0 rfl (J.ev rfl) (J.ev rfl)),pt [(84,.slice (some ⟨b,0,none⟩) ((IntKind.i64.wrap (2 * (a0.length:Int))).toNat) ((IntKind.i64.wrap (2 * (a0.length:Int))).toNat)),(86,.int .i64 (IntKind.i64.wrap (2 * f)))] rfl (fun U J=>fH wQ sz3 (X.rd 3 rfl) f5 J rfl rfl rfl),pt [(87,.pointer (some (ea (some ⟨b,0,none⟩) ((IntKind.i64.wrap (2 * f)).toNat * 1))))] rfl (fun U J=>cM uu3 (k3 0 _ rfl) J rfl rfl rfl),pm rfl,pm rfl,pt [(90,.int .i64 f)] rfl (fun U J=>aN0 rfl (J.ev rfl) (J.ev rfl)),pt [(91,.int .i64 (IntKind.i64.wrap (2 * f)))] rfl (fun U J=>iP rfl (J.ev rfl) (J.ev rfl)),pt [(89,.slice (some ⟨b,0,none⟩) ((IntKind.i64.wrap (2 * (a0.length:Int))).toNat) ((IntKind.i64.wrap (2 * (a0.length:Int))).toNat)),(92,.int .i64 (IntKind.i64.wrap ((IntKind.i64.wrap (2 * f))+1)))] rfl (fun U J=>fH wQ sz3 (X.rd 3 rfl) f6 J rfl rfl rfl),pt [(93,.pointer (some (ea (some ⟨b,0,none⟩) ((IntKind.i64.wrap ((IntKind.i64.wrap (2 * f))+1)).toNat * 1))))] rfl (fun U J=>cM uu3 (k4 0 _ rfl) J rfl rfl rfl),pm rfl,pm rfl,trivial⟩ ⟨by kernel_rfl,by kernel_rfl⟩ [(4,_),(8,_),(9,_),(11,_),(12,_),(13,_)] rfl (fun U J=>?_)
     refine k2 _ _ (wp_seq_k fun k5 k6=>?_)
     have hj2:∀e1 e2 P Q,tI b7 f e1 e2 P Q=some e9→∀c1 c2 c3 c4 c5 c6 U w,FR 125 [] U [(4,(pP a)),(8,.int .i64 (a0.length:Int)),(9,.slice (some ⟨b,0,none⟩) ((IntKind.i64.wrap (2 * (a0.length:Int))).toNat) ((IntKind.i64.wrap (2 * (a0.length:Int))).toNat)),(11,.int .i64 f),(12,.int .i64 P),(13,.int .i64 Q)]→SH r (blk a 151 [.slice c1 c2 c3,.slice c4 c5 c6]::own (kM Z wz k47) 22 c1 c2 c3 e1::own (kI .i64) 3 c4 c5 c6 e2::own (kI .i64) 3 (some ⟨b,0,none⟩) ((IntKind.i64.wrap (2 * (a0.length:Int))).toNat) ((IntKind.i64.wrap (2 * (a0.length:Int))).toNat) b7::L) w→k5 U w:=by
      intro e1 e2 P Q G c1 c2 c3 c4 c5 c6 U w J X
      unfold tI at G
      refine k6 _ _ (aC ?_)
      refine xk 4 J rfl fun U J=>aL wA J (fun U J=>?_) rfl
      refine aH wQ (X.cell 0 rfl 1 _ rfl) J (fun U J=>?_) rfl
      refine xk 3 J rfl fun U J=>?_
      obtain⟨r3,f7,G⟩:=bnd G
      refine fG wQ sz3 (X.rd 3 rfl) f7 J (fun U J=>?_) rfl
      refine aFl (z':=P) (off:=0) (vs:=[.int .i64 P]) 3 sz3 J X rfl (dQ f7).2.2 (fun c h=>by cases h; rfl) (fun  U w X J=>?_) rfl rfl rfl rfl rfl rfl rfl rfl
      obtain⟨r4,f8,G⟩:=bnd G
      refine fG wQ sz3 (X.rd 3 rfl) f8 J (fun U J=>?_) rfl
      refine aFl (z':=Q) (off:=0) (vs:=[.int .i64 Q]) 3 sz3 J X rfl (dQ f8).2.2 (fun c h=>by cases h; rfl) (fun  U w X J=>?_) rfl rfl rfl rfl rfl rfl rfl rfl
      refine wpList_nil (k1 _ _ ?_)
      refine k0 _ _ (aC ?_)
      refine nk 3 J rfl fun U J=>?_
      replace X:=X.pk 1 |>.pk 1 |>.pk 3 |>.pk 3
      cases G
      exact⟨_,j6 _ rfl,c1,c2,c3,c4,c5,c6,J.sub _ rfl,X⟩
     refine ws fun r5 k7=>xk 3 J rfl fun U J=>?_
     replace X:=X.pk 2 |>.pk 2 |>.pk 2
     replace X:=nE (x:=(⟨d9,e0⟩:S151)) X
     obtain⟨c7,k8,G⟩:=bnd G
     refine x_c bAw J rfl (wU k8 X (qz+1) hZ :) fun v U w hR J=>?_
     obtain⟨rfl,X⟩:=hR
     obtain⟨f9,g0,g1,g2,g3,g4,X⟩:=xF X
     refine wn (k7 _ _ ?_)
     refine bA J G rfl (fun k9 G=>?_) fun k9 G=>?_
     ·refine aC (nk 4 J rfl fun U J=>?_)
      exact hj2 c7.2.f0 c7.2.f1 b9 b8 G f9 g0 g1 g2 g3 g4 U w (J.sub _ rfl) X
     exact wp_skip (hj2 c7.2.f0 c7.2.f1 b8 b9 G f9 g0 g1 g2 g3 g4 U w (J.sub _ rfl) X)
    cases G
    exact wp_exit (j4 d9 e0 b7 (j7 _ rfl) b1 b2 b3 b4 b5 b6 U w (J.sub _ rfl) X)
   obtain⟨l0,l1,G⟩:=bnd G
   have l2:∀R,(R)=l0→∀U w,FR 125 [] U [(4,(pP a)),(8,.int .i64 (a0.length:Int)),(9,.slice (some ⟨b,0,none⟩) ((IntKind.i64.wrap (2 * (a0.length:Int))).toNat) ((IntKind.i64.wrap (2 * (a0.length:Int))).toNat))]→SH r (blk a 151 [.slice g i k,.slice (some ⟨C,0,none⟩) ((a0.length:Int).toNat) ((a0.length:Int).toNat)]::own (kM Z wz k47) 22 g i k z::own (kI .i64) 3 (some ⟨C,0,none⟩) ((a0.length:Int).toNat) ((a0.length:Int).toNat) (List.replicate (a0.length:Int).toNat (0:Int))::own (kI .i64) 3 (some ⟨b,0,none⟩) ((IntKind.i64.wrap (2 * (a0.length:Int))).toNat) ((IntKind.i64.wrap (2 * (a0.length:Int))).toNat) R::L) w→e5 U w:=by
    intro R ht U w J X
    subst ht
    replace G:sG a0 z R=some y:=G
    unfold sG at G
    exact hb2 R G U w (J.sub _ rfl) X
   replace X:=X.pk 2 |>.pk 3 |>.pk 3
   refine aD l1 (fun s U w=>FR 125 [] U [(4,(pP a)),(8,.int .i64 (a0.length:Int)),(9,.slice (some ⟨b,0,none⟩) ((IntKind.i64.wrap (2 * (a0.length:Int))).toNat) ((IntKind.i64.wrap (2 * (a0.length:Int))).toNat)),(67,.int .i64 (a0.length:Int)),(68,.int .i64 s.2)]∧SH r (blk a 151 [.slice g i k,.slice (some ⟨C,0,none⟩) ((a0.length:Int).toNat) ((a0.length:Int).toNat)]::own (kM Z wz k47) 22 g i k z::own (kI .i64) 3 (some ⟨C,0,none⟩) ((a0.length:Int).toNat) ((a0.length:Int).toNat) (List.replicate (a0.length:Int).toNat (0:Int))::own (kI .i64) 3 (some ⟨b,0,none⟩) ((IntKind.i64.wrap (2 * (a0.length:Int))).toNat) ((IntKind.i64.wrap (2 * (a0.length:Int))).toNat) s.1::L) w) ⟨J.sub _ rfl,X⟩ ?_
   intro r6 l3 l4 G l5 l6 U w hLab
   obtain⟨g5,e3⟩:=l3
   replace G:lU a0 g5 e3=some l4:=G
   unfold lU at G
   try dsimp only at hLab
   obtain⟨J,X⟩:=hLab
   refine nz 1 J rfl fun U J=>wp_seq_k fun r7 l7=>bA J G rfl (fun l8 G=>?_) fun l8 G=>?_
   ·refine wp_skip (l7 _ _ ?_)
    refine wp_seq_k fun r8 l9=>aA fun r9 m0=>nz 2 J rfl fun U J=>aC (xk 5 J rfl fun U J=>?_)
    obtain⟨s0,g6,G⟩:=bnd G
    refine fG wQ sz3 (X.rd 3 rfl) g6 J (fun U J=>?_) rfl
    refine aFl (z':=e3) (off:=0) (vs:=[.int .i64 e3]) 3 sz3 J X rfl (dQ g6).2.2 (fun c h=>by cases h; rfl) (fun  U w X J=>?_) rfl rfl rfl rfl rfl rfl rfl rfl
    refine wpList_nil (m0 _ _ ?_)
    refine l9 _ _ (aC ?_)
    refine nk 2 J rfl fun U J=>?_
    replace X:=X.pk 3 |>.pk 3 |>.pk 3
    cases G
    exact⟨_,l5 _ rfl,J.sub _ rfl,X⟩
   cases G
   exact wp_exit (l2 g5 (l6 _ rfl) U w (J.sub _ rfl) X)
  obtain⟨t212,m1,G⟩:=bnd G
  have m2:=G
  have m3:∀S,(.inl (S))=t212→∀c8 c9 d0 U w,FR 125 [] U [(0,.slice A0 n0 c0),(4,(pP a))]→SH r (blk a 151 [.slice c8 c9 d0,.slice none 0 0]::own (kM Z wz k47) 22 c8 c9 d0 S::L) w→e4 U w:=by
   intro S ht c8 c9 d0 U w J X
   subst ht
   replace G:tJ a0 S=some y:=G
   unfold tJ at G
   exact hb1 S G c8 c9 d0 U w (J.sub _ rfl) X
  replace X:=(SH.nil_own (d:=(kM Z wz k47)) (e:=22) X).pk 1
  refine aD m1 (fun s U w=>∃l m n,FR 125 [] U [(0,.slice A0 n0 c0),(4,(pP a)),(24,.slice A0 n0 c0),(25,.int .i64 (a0.length:Int)),(26,.int .i64 s.2)]∧SH r (blk a 151 [.slice l m n,.slice none 0 0]::own (kM Z wz k47) 22 l m n s.1::L) w) ⟨none,0,0,J.sub _ rfl,X⟩ ?_
  intro s2 m4 d1 G m5 g7 U w hLab
  obtain⟨D,E⟩:=m4
  replace G:mA a0 D E=some d1:=G
  unfold mA at G
  try dsimp only at hLab
  obtain⟨l,m,n,J,X⟩:=hLab
  refine nz 1 J rfl fun U J=>wp_seq_k fun s3 m6=>bA J G rfl (fun m7 G=>?_) fun m7 G=>?_
  ·refine wp_skip (m6 _ _ ?_)
   refine wp_seq_k fun s4 m8=>aA fun s5 m9=>ws fun s6 n1=>?_
   obtain⟨d2,g8,G⟩:=bnd G
   refine fG qM aDa (X.rdl 2 ha0 rfl) g8 J (fun U J=>?_) rfl
   obtain⟨cs,hV,n2⟩:=el (X.rdl 2 ha0 rfl) g8
   obtain⟨o,A,B,rfl,F⟩:=hV
   refine aH eG (n2 0 _ rfl) J (fun U J=>?_) rfl
   refine x_m J rfl fun U J=>wn (n1 _ _ ?_)
   refine wp_seq_k fun s7 n3=>nz 1 J rfl fun U J=>aA fun g9 n4=>?_
   have hb4:vN D E d2=some d1→∀U w,FR 125 [] U [(0,.slice A0 n0 c0),(4,(pP a)),(6,.slice o A B),(24,.slice A0 n0 c0),(25,.int .i64 (a0.length:Int)),(26,.int .i64 E)]→SH r (blk a 151 [.slice l m n,.slice none 0 0]::own (kM Z wz k47) 22 l m n D::L) w→g9 U w:=by
    intro G U w J X
    unfold vN at G
    refine n4 _ _ (n3 _ _ ?_)
    refine aC (xk 3 J rfl fun U J=>?_)
    refine aL vT J (fun U J=>?_) rfl
    refine aH qM (X.cell 0 rfl 0 _ rfl) J (fun U J=>?_) rfl
    refine x_m J rfl fun U J=>iM (d:=(kM Z wz k47)) (e:=22) (ps:=#[(0,.slice o A B)]) (cells:=[.slice o A B]) (xs:=[d2]) (fun w=>by kernel_rfl) rfl ⟨[.slice o A B],_,rfl,⟨_,_,_,rfl,F⟩,rfl⟩ J X (fun s8 U w X J=>?_) rfl
    obtain⟨n5,G⟩:=aB G
    have hr:=X.rd 0 rfl
    refine gH 2 aU4 qM J X hr.1 hr.2.1 n5 rfl (fun n6 n7 n8 U w X J=>?_) rfl
    refine xk 1 J rfl fun U J=>aL vT J (fun U J=>?_) rfl
    refine dH 2 aZp J X rfl (fun  U w X J=>?_) rfl
    refine wpList_nil (m9 _ _ ?_)
    refine m8 _ _ (aC ?_)
    refine nk 2 J rfl fun U J=>?_
    replace X:=X.drop 2
    cases G
    exact⟨_,m5 _ rfl,n6,n7,n8,J.sub _ rfl,X⟩
   obtain⟨n9,o0,G⟩:=bnd G
   have o1:=G
   have o2:(.inl ())=n9→∀U w,FR 125 [] U [(0,.slice A0 n0 c0),(4,(pP a)),(6,.slice o A B),(24,.slice A0 n0 c0),(25,.int .i64 (a0.length:Int)),(26,.int .i64 E)]→SH r (blk a 151 [.slice l m n,.slice none 0 0]::own (kM Z wz k47) 22 l m n D::L) w→g9 U w:=by
    intro ht U w J X
    subst ht
    replace G:sZ D E d2=some d1:=G
    unfold sZ at G
    exact hb4 G U w (J.sub _ rfl) X
   refine aD o0 (fun s U w=>FR 125 [] U [(0,.slice A0 n0 c0),(4,(pP a)),(6,.slice o A B),(7,.int .i64 s),(24,.slice A0 n0 c0),(25,.int .i64 (a0.length:Int)),(26,.int .i64 E)]∧SH r (blk a 151 [.slice l m n,.slice none 0 0]::own (kM Z wz k47) 22 l m n D::L) w) ⟨J.sub _ rfl,X⟩ ?_
   intro s9 o3 o4 G o5 h0 U w hLab
   obtain⟨H,rfl⟩:∃ q,q=o3:=⟨_,rfl⟩
   replace G:qF d2 H=some o4:=G
   unfold qF at G
   try dsimp only at hLab
   obtain⟨J,X⟩:=hLab
   refine wp_seq_k fun t0 o6=>ws fun t1 o7=>xk 2 J rfl fun U J=>aU eG (X.rdl 2 (F.rdl qz hZ) rfl).2.1 J (fun U J=>?_) rfl
   refine nk 1 J rfl fun U J=>o7 _ _ (bA J G rfl (fun o8 G=>?_) fun o8 G=>?_)
   ·refine wp_skip (o6 _ _ ?_)
    refine wp_seq_k fun t2 o9=>aA fun t3 p1=>wp_seq_k fun t4 p2=>cP [0,0,3,7,0,0,32,112,240,511] [9] rfl J X (by kernel_rfl) (by kernel_rfl) (by kernel_rfl) (by kernel_rfl) fun w X=>?_
    obtain⟨p,h1,G⟩:=bnd G
    obtain⟨cs,hV,p3⟩:=el (X.rdl 2 (F.rdl qz hZ) rfl) h1
    obtain rfl:=hV
    obtain⟨t,h2,G⟩:=bnd G
    obtain⟨cs,hV,p4⟩:=el (X.rdl 2 (F.rdl qz hZ) rfl) h2
    obtain rfl:=hV
    refine⟨[(0,.slice o A B),(1,.int .i64 H),(2,.pointer (some (ea o (H.toNat * 5)))),(3,.agg #[.int .u64 p.f0,.int .i64 p.f1,.int .i64 p.f2,str p.f3,.float .f64 p.f4]),(4,.slice o A B),(5,.int .i64 H),(6,.int .i64 (IntKind.i64.wrap (H - 1))),(7,.pointer (some (ea o ((IntKind.i64.wrap (H - 1)).toNat * 5)))),(8,.agg #[.int .u64 t.f0,.int .i64 t.f1,.int .i64 t.f2,str t.f3,.float .f64 t.f4])],?_⟩
    refine dF [0,1,2,3,4,5,6,7,8] [9] (by kernel_rfl) ⟨pm rfl,pm rfl,pt [(36,_),(37,_)] rfl (fun U J=>fH eG cH (X.rdl 2 (F.rdl qz hZ) rfl) h1 J rfl rfl rfl),pt [(38,_)] rfl (fun U J=>nL (cs:=[.int .u64 p.f0,.int .i64 p.f1,.int .i64 p.f2,str p.f3,.float .f64 p.f4]) lL cH (fun j u h=>by rw [eU]; exact p3 _ _ h) J rfl rfl rfl),pm rfl,pm rfl,pt [(41,_)] rfl (fun U J=>oZ rfl (J.ev rfl) (J.ev rfl)),pt [(40,_),(42,_)] rfl (fun U J=>fH eG cH (X.rdl 2 (F.rdl qz hZ) rfl) h2 J rfl rfl rfl),pt [(43,_)] rfl (fun U J=>nL (cs:=[.int .u64 t.f0,.int .i64 t.f1,.int .i64 t.f2,str t.f3,.float .f64 t.f4]) lL cH (fun j u h=>by rw [eU]; exact p4 _ _ h) J rfl rfl rfl),trivial⟩ ⟨et [(39,_),(44,_)] rfl (fun U J K hK=>?_),trivial⟩
    obtain⟨t5,p5,G⟩:=bnd G
    refine nQ aQ2 J (tB p5 X :) (fun v w hR=>?_) rfl
    obtain⟨rfl,X⟩:=hR
    refine hK _ [] _ rfl (gK [] (by kernel_rfl) trivial ⟨by kernel_rfl,by kernel_rfl⟩ [(0,_),(4,_),(6,_),(7,_),(24,_),(25,_),(26,_),(45,_)] rfl (fun U J=>?_))
    refine p2 _ _ (bA J G rfl (fun p6 G=>?_) fun p6 G=>?_)
    ·refine nz 2 J rfl fun U J=>?_
     replace X:=(SH.optN (obj151 Z wz) X).drop 1 |>.drop 1
     cases G
     refine wp_ret ?_
     have ht:=h0 _ rfl
     subst ht
     replace G:=o1
     replace G:some (.inr (.inr (none,7)))=some d1:=G
     cases G
     have ht:=g7 _ rfl
     subst ht
     replace G:=m2
     replace G:some (none,7)=some y:=G
     cases G
     refine hQ _ _ (lv2 Tryz.results72 J rfl rfl ?_)
     exact⟨none,rfl,X⟩
    refine wp_skip (p1 _ _ ?_)
    refine o9 _ _ (aC ?_)
    refine nk 3 J rfl fun U J=>?_
    cases G
    exact⟨_,o5 _ rfl,J.sub _ rfl,X⟩
   cases G
   exact wp_exit (o2 (h0 _ rfl) U w (J.sub _ rfl) X)
  cases G
  exact wp_exit (m3 D (g7 _ rfl) l m n U w (J.sub _ rfl) X)
 refine aC (x_m J rfl fun U J=>?_)
 refine aU qM (X.rdl 0 ha0 rfl).2.1 J (fun U J=>?_) rfl
 refine xk 2 J rfl fun U J=>bcG G (fun T G=>?_) fun T G=>?_
 ·exact ng 4 T J rfl rfl fun U J=>hj1 true G U w (J.sub _ rfl) X
 refine xg 1 T J rfl rfl fun U J=>aJ T J ?_ rfl
 refine aU qM (X.rdl 0 ha0 rfl).2.1 J (fun U J=>?_) rfl
 exact ng 2 T J rfl rfl fun U J=>hj1 (decide (16<(a0.length:Int))) G U w (J.sub _ rfl) X
theorem xC {a0 p0 y} (G:iK a0=some y) (X:SH r (sS (obj151 Z wz) p0 a0::L) w) (qz:Nat) (hZ:L[qz]?=some (zone Z wz)) :
  Ret Tryz.prog 73 #[.pointer p0] w fun v w'=>v=.tuple #[(.agg #[.int .u64 y.1.f0,.int .i64 y.1.f1,.int .i64 y.1.f2,str y.1.f3,.float .f64 y.1.f4]),(.int .i64 y.2.1),(.bool y.2.2.1)]∧SH r (sS (obj151 Z wz) p0 y.2.2.2::L) w':=by
 refine enter Tryz.func73 rfl Tryz.ntmps73 [(0,_)] rfl (by simp) ?_
 intro U J Qf hQ hQn
 unfold iK at G
 cases a0 with
 | none =>
  have hU:=SH.unoptN X
  clear X
  obtain⟨rfl,X⟩:=hU
  refine ws fun j4 e4=>gZ (cs:=[.int .u64 0,.int .i64 0,.int .i64 0,str [],.float .f64 0]) aJ0 J X (fun j5 U w X J=>?_) rfl
  refine nk 2 J rfl fun U J=>e4 _ _ (wp_seq_k fun j6 j7=>?_)
  refine wp_seq_k fun j8 e5=>cP [0,1,3,7,15,31,63,7,135,391,903,1927,3975,8191,16383,32767,65535,131071] [] rfl J X (by kernel_rfl) (by kernel_rfl) (by kernel_rfl) (by kernel_rfl) fun w X=>⟨[(0,.pointer none),(1,.bool true),(2,.bool true),(3,undef),(4,undef),(5,undef),(6,undef),(7,undef),(8,undef),(9,undef),(10,undef),(11,undef),(12,undef),(13,undef),(14,undef),(15,undef),(16,undef),(17,.bool true)],?_⟩
  refine gK [0,1,2,3,4,5,6,7,8,9,10,11,12,13,14,15,16,17] (by kernel_rfl) ⟨pm rfl,pt [(9,.pointer none)] rfl fun U J=>uJ (p:=none) aU3 rfl (J.ev rfl) (J.ev rfl),pm rfl,eH rfl rfl rfl rfl [(0,.pointer none),(11,.bool true)] rfl rfl rfl,eH rfl rfl rfl rfl [(11,.bool true),(12,undef)] rfl rfl rfl,eH rfl rfl rfl rfl [(11,.bool true),(13,undef)] rfl rfl rfl,eH rfl rfl rfl rfl [(11,.bool true),(14,undef)] rfl rfl rfl,eH rfl rfl rfl rfl [(0,.pointer none),(11,.bool true)] rfl rfl rfl,eH rfl rfl rfl rfl [(11,.bool true),(16,undef)] rfl rfl rfl,eH rfl rfl rfl rfl [(11,.bool true),(17,undef)] rfl rfl rfl,eH rfl rfl rfl rfl [(11,.bool true),(18,undef)] rfl rfl rfl,eH rfl rfl rfl rfl [(11,.bool true),(19,undef)] rfl rfl rfl,eH rfl rfl rfl rfl [(11,.bool true),(20,undef)] rfl rfl rfl,eH rfl rfl rfl rfl [(11,.bool true),(15,undef),(21,undef)] rfl rfl rfl,eH rfl rfl rfl rfl [(11,.bool true),(22,undef)] rfl rfl rfl,eH rfl rfl rfl rfl [(11,.bool true),(23,undef)] rfl rfl rfl,eH rfl rfl rfl rfl [(11,.bool true),(24,undef)] rfl rfl rfl,pt [(11,.bool true),(25,undef)] rfl (fun U J=>aAr rfl J rfl rfl rfl),trivial⟩ ⟨by kernel_rfl,by kernel_rfl⟩ [(0,_),(2,_),(26,_)] rfl (fun U J=>?_)
  refine e5 _ _ (c_t (b:=true) rfl J ?_ rfl)
  refine ws fun j9 e6=>x_v (v:=.agg #[.int .u64 0,.int .i64 0,.int .i64 0,str [],.float .f64 0]) J (qB (ps:=#[]) rfl (sB J rfl) (fun w=>by kernel_rfl)) rfl fun U J=>dH 0 cH J X rfl (fun  U w X J=>?_) rfl
  refine nk 2 J rfl fun U J=>e6 _ _ (wp_ret ?_)
  have hS0:=X
  replace X:=(SH.optN (obj151 Z wz) X).drop 1
  cases G
  refine hQ _ _ (aXj (cs:=[.int .u64 0,.int .i64 0,.int .i64 0,str [],.float .f64 0]) Tryz.results73 lL cH hS0 0 rfl J rfl rfl rfl rfl ?_)
  exact⟨rfl,X⟩
 | some e7 =>
  have hU:=SH.unoptS X
  clear X
  obtain⟨a,rfl,X⟩:=hU
  obtain⟨f,q,t,z,b3,b4,X⟩:=xF X
  refine ws fun k0 e8=>gZ (cs:=[.int .u64 0,.int .i64 0,.int .i64 0,str [],.float .f64 0]) aJ0 J X (fun i U w X J=>?_) rfl
  refine nk 2 J rfl fun U J=>e8 _ _ (wp_seq_k fun k1 e9=>?_)
  refine wp_seq_k fun k2 f5=>cP [0,1,3,7,15,31,63,7,135,391,903,1927,3975,8191,16383,32767,65535,131071] [] rfl J X (by kernel_rfl) (by kernel_rfl) (by kernel_rfl) (by kernel_rfl) fun w X=>?_
  obtain⟨e,E,G⟩:=bnd G
  obtain⟨cs,hV,f6⟩:=el (X.rd 3 rfl) E
  obtain rfl:=hV
  obtain⟨A,k,G⟩:=bnd G
  obtain⟨cs,hV,f7⟩:=el (X.rd 2 rfl) k
  obtain⟨c9,d0,d1,rfl,f8⟩:=hV
  refine⟨[(0,(pP a)),(1,.bool false),(2,.bool false),(3,(pP a)),(4,(pP a)),(5,(pP a)),(6,.slice f q t),(7,(pP a)),(8,(pP a)),(9,.pointer (some ⟨a,1,none⟩)),(10,.slice z b3 b4),(11,.pointer (some (ea z ((0:Int).toNat * 1)))),(12,.int .i64 e),(13,.pointer (some (ea f (e.toNat * 1)))),(14,.slice c9 d0 d1),(15,.int .i64 (A.length:Int)),(16,.bool ((A.length:Int)==0)),(17,.bool ((A.length:Int)==0))],?_⟩
  refine gK [0,1,2,3,4,5,6,7,8,9,10,11,12,13,14,15,16,17] (by kernel_rfl) ⟨pm rfl,pt [(9,(pP a))] rfl fun U J=>uJ (p:=some ⟨a,0,none⟩) aU3 rfl (J.ev rfl) (J.ev rfl),pm rfl,iB rfl rfl rfl rfl [(0,(pP a)),(11,.bool false)] rfl rfl (fun U J=>mK J rfl rfl) rfl,iB rfl rfl rfl rfl [(11,.bool false),(12,(pP a))] rfl rfl (fun U J=>dC rfl (J.ev rfl)) rfl,iB rfl rfl rfl rfl [(11,.bool false),(13,(pP a))] rfl rfl (fun U J=>eR vT J rfl rfl) rfl,iB rfl rfl rfl rfl [(11,.bool false),(14,(pP a))] rfl rfl (fun U J=>cM qM (X.cell 1 rfl 0 _ rfl) J rfl rfl rfl) rfl,iB rfl rfl rfl rfl [(0,(pP a)),(11,.bool false)] rfl rfl (fun U J=>mK J rfl rfl) rfl,iB rfl rfl rfl rfl [(11,.bool false),(16,(pP a))] rfl rfl (fun U J=>dC rfl (J.ev rfl)) rfl,iB rfl rfl rfl rfl [(11,.bool false),(17,(pP a))] rfl rfl (fun U J=>eR wA J rfl rfl) rfl,iB rfl rfl rfl rfl [(11,.bool false),(18,.pointer (some ⟨a,1,none⟩))] rfl rfl (fun U J=>cM wQ (X.cell 1 rfl 1 _ rfl) J rfl rfl rfl) rfl,iB rfl rfl rfl rfl [(11,.bool false),(19,.slice z b3 b4)] rfl rfl (fun U J=>fH wQ sz3 (X.rd 3 rfl) E J rfl rfl rfl) rfl,iB rfl rfl rfl rfl [(11,.bool false),(20,.pointer (some (ea z ((0:Int).toNat * 1))))] rfl rfl (fun U J=>cM uu3 (f6 0 _ rfl) J rfl rfl rfl) rfl,iB rfl rfl rfl rfl [(11,.bool false),(15,.slice f q t),(21,.int .i64 e)] rfl rfl (fun U J=>fH qM aDa (X.rd 2 rfl) k J rfl rfl rfl) rfl,iB rfl rfl rfl rfl [(11,.bool false),(22,.pointer (some (ea f (e.toNat * 1))))] rfl rfl (fun U J=>cM eG (f7 0 _ rfl) J rfl rfl rfl) rfl,iB rfl rfl rfl rfl [(11,.bool false),(23,.slice c9 d0 d1)] rfl rfl (fun U J=>aD0 eG (X.rdl 4 (f8.rdl qz hZ) rfl).2.1 J rfl rfl) rfl,iB rfl rfl rfl rfl [(11,.bool false),(24,.int .i64 (A.length:Int))] rfl rfl (fun U J=>aH1 rfl (J.ev rfl) (J.ev rfl)) rfl,pt [(11,.bool false),(25,.bool ((A.length:Int)==0))] rfl (fun U J=>yW rfl J rfl rfl rfl),trivial⟩ ⟨by kernel_rfl,by kernel_rfl⟩ [(0,_),(2,_),(26,_)] rfl (fun U J=>?_)
  refine f5 _ _ (bA J G rfl (fun f9 G=>?_) fun f9 G=>?_)
  ·refine ws fun k3 g0=>x_v (v:=.agg #[.int .u64 0,.int .i64 0,.int .i64 0,str [],.float .f64 0]) J (qB (ps:=#[]) rfl (sB J rfl) (fun w=>by kernel_rfl)) rfl fun U J=>dH 0 cH J X rfl (fun  U w X J=>?_) rfl
   refine nk 2 J rfl fun U J=>g0 _ _ (wp_ret ?_)
   have hS0:=X
   replace X:=(SH.optS (nE (x:=e7) (X.pk 3 |>.pk 3 |>.pk 3))).drop 1
   cases G
   refine hQ _ _ (aXj (cs:=[.int .u64 0,.int .i64 0,.int .i64 0,str [],.float .f64 0]) Tryz.results73 lL cH hS0 0 rfl J rfl rfl rfl rfl ?_)
   exact⟨rfl,X⟩
  refine wp_skip (e9 _ _ ?_)
  refine ws fun k4 g1=>xk 2 J rfl fun U J=>aL wA J (fun U J=>?_) rfl
  refine aH wQ (X.cell 1 rfl 1 _ rfl) J (fun U J=>?_) rfl
  refine fG wQ sz3 (X.rd 3 rfl) E J (fun U J=>?_) rfl
  obtain⟨cs,hV,g2⟩:=el (X.rd 3 rfl) E
  obtain rfl:=hV
  refine aH uu3 (g2 0 _ rfl) J (fun U J=>?_) rfl
  refine x_m J rfl fun U J=>wn (g1 _ _ ?_)
  refine ws fun k5 g3=>xk 2 J rfl fun U J=>aL vT J (fun U J=>?_) rfl
  refine aH qM (X.cell 1 rfl 0 _ rfl) J (fun U J=>?_) rfl
  refine x_m J rfl fun U J=>fG qM aDa (X.rd 2 rfl) k J (fun U J=>?_) rfl
  obtain⟨cs,hV,g4⟩:=el (X.rd 2 rfl) k
  obtain⟨k6,k7,k8,rfl,d2⟩:=hV
  refine aH eG (g4 0 _ rfl) J (fun U J=>?_) rfl
  obtain⟨d,d3,G⟩:=bnd G
  refine fG eG cH (X.rdl 4 (d2.rdl qz hZ) rfl) d3 J (fun U J=>?_) rfl
  obtain⟨cs,hV,g5⟩:=el (X.rdl 4 (d2.rdl qz hZ) rfl) d3
  obtain rfl:=hV
  refine lH (cs:=[.int .u64 d.f0,.int .i64 d.f1,.int .i64 d.f2,str d.f3,.float .f64 d.f4]) lL cH (fun j u h=>by rw [eU]; exact g5 _ _ h) J (fun U J=>?_) rfl
  refine gZ (cs:=[.int .u64 0,.int .i64 0,.int .i64 0,str [],.float .f64 0]) aJ0 J X (fun g U w X J=>?_) rfl
  refine dH 0 cH J X rfl (fun  U w X J=>?_) rfl
  refine wn (g3 _ _ ?_)
  refine wp_seq_k fun k9 g6=>cP [0,1,3,7,0,0,32,96,224,0,992,2016,4064,8191,16383] [14] rfl J X (by kernel_rfl) (by kernel_rfl) (by kernel_rfl) (by kernel_rfl) fun w X=>?_
  obtain⟨cs,hV,g7⟩:=el (X.rd 3 rfl) k
  obtain⟨g8,g9,h0,rfl,b5⟩:=hV
  obtain⟨h1,b6,G⟩:=bnd G
  obtain⟨d4,d5,d6,h2,h3⟩:=aE9 b5 b6
  refine⟨[(0,(pP a)),(1,(pP a)),(2,(pP a)),(3,.slice f q t),(4,.int .i64 e),(5,(pP a)),(6,(pP a)),(7,(pP a)),(8,.slice f q t),(9,.int .i64 e),(10,.pointer (some (ea f (e.toNat * 1)))),(11,.slice g8 g9 h0),(12,.slice d4 d5 d6),(13,.pointer (some (ea f (e.toNat * 1))))],?_⟩
  refine dF [0,1,2,3,4,5,6,7,8,9,10,11,12,13] [14] (by kernel_rfl) ⟨pm rfl,pt [(43,_)] rfl (fun U J=>dC rfl (J.ev rfl)),pt [(44,_)] rfl (fun U J=>eR vT J rfl rfl),pt [(45,_)] rfl (fun U J=>cM qM (X.cell 2 rfl 0 _ rfl) J rfl rfl rfl),pm rfl,pm rfl,pt [(48,_)] rfl (fun U J=>dC rfl (J.ev rfl)),pt [(49,_)] rfl (fun U J=>eR vT J rfl rfl),pt [(50,_)] rfl (fun U J=>cM qM (X.cell 2 rfl 0 _ rfl) J rfl rfl rfl),pm rfl,pt [(51,_),(52,_)] rfl (fun U J=>fH qM aDa (X.rd 3 rfl) k J rfl rfl rfl),pt [(53,_)] rfl (fun U J=>cM eG (g7 0 _ rfl) J rfl rfl rfl),pt [(54,_)] rfl fun U J=>aE5 h2 (kK eG cH rfl (J.ev rfl) (J.ev rfl) (tG (X.rdl 5 (b5.rdl qz hZ) rfl) b6).1 (tG (X.rdl 5 (b5.rdl qz hZ) rfl) b6).2.2.2.2.2),pt [(46,_),(47,_)] rfl (fun U J=>fH qM aDa (X.rd 3 rfl) k J rfl rfl rfl),trivial⟩ ⟨et [(55,_),(56,_)] rfl (fun U J K hK=>?_),trivial⟩
  refine xD (z':=h1) (off:=0) (vs:=[.slice d4 d5 d6]) 3 aDa J X rfl (dQ k).2.2 (fun c h=>by obtain⟨_,_,_,rfl,_⟩:=h; exact⟨_,_,_,rfl,h3⟩) (fun  w X=>?_) rfl rfl rfl rfl rfl rfl
  refine hK _ [] _ rfl (gK [] (by kernel_rfl) trivial ⟨by kernel_rfl,by kernel_rfl⟩ [(0,_),(2,_),(5,_),(6,_)] rfl (fun U J=>?_))
  refine g6 _ _ (nz 2 J rfl fun U J=>?_)
  refine wp_seq_k fun l0 h4=>ws fun l1 h5=>xk 3 J rfl fun U J=>aL vT J (fun U J=>?_) rfl
  refine aH qM (X.cell 3 rfl 0 _ rfl) J (fun U J=>?_) rfl
  refine aU qM (X.rd 0 rfl).2.1 J (fun U J=>?_) rfl
  refine xk 1 J rfl fun U J=>x_v J (aGa rfl (J.ev rfl) (J.ev rfl) (by decide)) rfl fun U J=>x_m J rfl fun U J=>wn (h5 _ _ ?_)
  refine aA fun d7 h6=>?_
  have hb1:∀F H n,nU e d F H n=some y→∀b7 b8 b9 c0 c1 c2 U w,FR 102 [] U [(0,(pP a)),(2,(pP i)),(5,.int .i64 e),(6,(pP g)),(7,.int .i64 n)]→SH r (blk a 151 [.slice b7 b8 b9,.slice c0 c1 c2]::blk i 47 [.int .u64 0,.int .i64 0,.int .i64 0,str [],.float .f64 0]::blk g 47 [.int .u64 d.f0,.int .i64 d.f1,.int .i64 d.f2,str d.f3,.float .f64 d.f4]::own (kM Z wz k47) 22 b7 b8 b9 F::own (kI .i64) 3 c0 c1 c2 H::L) w→d7 U w:=by
   intro F H n G b7 b8 b9 c0 c1 c2 U w J X
   unfold nU at G
   refine h6 _ _ (h4 _ _ ?_)
   refine ws fun l2 h7=>xk 2 J rfl fun U J=>aL wA J (fun U J=>?_) rfl
   refine aH wQ (X.cell 0 rfl 1 _ rfl) J (fun U J=>?_) rfl
   refine x_m J rfl fun U J=>?_
   obtain⟨l3,d8,G⟩:=bnd G
   refine fG wQ sz3 (X.rd 4 rfl) d8 J (fun U J=>?_) rfl
   refine aFl (z':=n) (off:=0) (vs:=[.int .i64 n]) 4 sz3 J X rfl (dQ d8).2.2 (fun c h=>by cases h; rfl) (fun  U w X J=>?_) rfl rfl rfl rfl rfl rfl rfl rfl
   refine wn (h7 _ _ ?_)
   refine ws fun l4 h8=>lH (ad:=⟨g,0,none⟩) (cs:=[.int .u64 d.f0,.int .i64 d.f1,.int .i64 d.f2,str d.f3,.float .f64 d.f4]) lL cH (fun j u h=>by rw [nF,Nat.zero_add]; exact X.cell 3 rfl j u h) J (fun U J=>?_) rfl
   refine x_m J rfl fun U J=>dH 2 cH J X rfl (fun  U w X J=>?_) rfl
   refine nk 2 J rfl fun U J=>h8 _ _ (wp_ret ?_)
   have hS0:=X
   replace X:=X.pk 1 |>.pk 4 |>.pk 3
   replace X:=(SH.optS (nE (x:=(⟨F,H.set (0:Int).toNat n⟩:S151)) X)).drop 1 |>.drop 1
   cases G
   refine hQ _ _ (aXj (cs:=[.int .u64 d.f0,.int .i64 d.f1,.int .i64 d.f2,str d.f3,.float .f64 d.f4]) Tryz.results73 lL cH hS0 0 rfl J rfl rfl rfl rfl ?_)
   exact⟨rfl,X⟩
  obtain⟨t171,h9,G⟩:=bnd G
  have i0:∀B C D,(B,C,D)=t171→∀I M N O P Q U w,FR 102 [] U [(0,(pP a)),(2,(pP i)),(5,.int .i64 e),(6,(pP g)),(7,.int .i64 D)]→SH r (blk a 151 [.slice I M N,.slice O P Q]::blk i 47 [.int .u64 0,.int .i64 0,.int .i64 0,str [],.float .f64 0]::blk g 47 [.int .u64 d.f0,.int .i64 d.f1,.int .i64 d.f2,str d.f3,.float .f64 d.f4]::own (kM Z wz k47) 22 I M N B::own (kI .i64) 3 O P Q C::L) w→d7 U w:=by
   intro B C D ht I M N O P Q U w J X
   subst ht
   replace G:mC e d B C D=some y:=G
   unfold mC at G
   exact hb1 B C D G I M N O P Q U w (J.sub _ rfl) X
  replace X:=X.pk 4 |>.pk 1 |>.pk 2 |>.pk 3 |>.pk 4
  refine aD h9 (fun s U w=>∃R S T W Y a1,FR 102 [] U [(0,(pP a)),(2,(pP i)),(5,.int .i64 e),(6,(pP g)),(7,.int .i64 s.2.2.1),(8,.int .i64 s.2.2.2)]∧SH r (blk a 151 [.slice R S T,.slice W Y a1]::blk i 47 [.int .u64 0,.int .i64 0,.int .i64 0,str [],.float .f64 0]::blk g 47 [.int .u64 d.f0,.int .i64 d.f1,.int .i64 d.f2,str d.f3,.float .f64 d.f4]::own (kM Z wz k47) 22 R S T s.1::own (kI .i64) 3 W Y a1 s.2.1::L) w) ⟨f,q,t,z,b3,b4,J.sub _ rfl,X⟩ ?_
  intro l5 i1 d9 G i2 i3 U w hLab
  obtain⟨c3,c4,m,l⟩:=i1
  replace G:iS c3 c4 m l=some d9:=G
  unfold iS at G
  try dsimp only at hLab
  obtain⟨R,S,T,W,Y,a1,J,X⟩:=hLab
  refine wp_seq_k fun l6 i4=>nz 2 J rfl fun U J=>bA J G rfl (fun i5 G=>?_) fun i5 G=>?_
  ·refine wp_skip (i4 _ _ ?_)
   refine wp_seq_k fun l7 i6=>aA fun i7 i8=>?_
   have hb2:∀c5 c6 c7,kU l c5 c6 c7=some d9→∀a2 a3 a4 a5 a6 a7 U w,FR 102 [] U [(0,(pP a)),(2,(pP i)),(5,.int .i64 e),(6,(pP g)),(7,.int .i64 c7),(8,.int .i64 l)]→SH r (blk a 151 [.slice a2 a3 a4,.slice a5 a6 a7]::blk i 47 [.int .u64 0,.int .i64 0,.int .i64 0,str [],.float .f64 0]::blk g 47 [.int .u64 d.f0,.int .i64 d.f1,.int .i64 d.f2,str d.f3,.float .f64 d.f4]::own (kM Z wz k47) 22 a2 a3 a4 c5::own (kI .i64) 3 a5 a6 a7 c6::L) w→i7 U w:=by
    intro c5 c6 c7 G a2 a3 a4 a5 a6 a7 U w J X
    unfold kU at G
    refine i8 _ _ (i6 _ _ ?_)
    refine aC (x_m J rfl fun U J=>?_)
    refine x_v J (aGa rfl (J.ev rfl) (J.ev rfl) (by decide)) rfl fun U J=>x_m J rfl fun U J=>wpList_nil ?_
    cases G
    exact⟨_,i2 _ rfl,a2,a3,a4,a5,a6,a7,J.sub _ rfl,X⟩
   refine ws fun l8 i9=>xk 3 J rfl fun U J=>aL wA J (fun U J=>?_) rfl
   refine aH wQ (X.cell 0 rfl 1 _ rfl) J (fun U J=>?_) rfl
   refine x_m J rfl fun U J=>?_
   obtain⟨l9,e0,G⟩:=bnd G
   refine fG wQ sz3 (X.rd 4 rfl) e0 J (fun U J=>?_) rfl
   obtain⟨cs,hV,j0⟩:=el (X.rd 4 rfl) e0
   obtain rfl:=hV
   refine aH uu3 (j0 0 _ rfl) J (fun U J=>?_) rfl
   refine x_m J rfl fun U J=>?_
   replace X:=X.pk 4 |>.pk 4 |>.pk 2
   replace X:=nE (x:=(⟨c3,c4⟩:S151)) X
   obtain⟨a8,j1,G⟩:=bnd G
   refine x_c bAw J rfl (wU j1 X (qz+2) hZ :) fun v U w hR J=>?_
   obtain⟨rfl,X⟩:=hR
   obtain⟨e1,e2,e3,o,a9,b1,X⟩:=xF X
   refine wn (i9 _ _ ?_)
   refine bA J G rfl (fun j2 G=>?_) fun j2 G=>?_
   ·refine cP [0,1,3,7,0,0,32,96,224,0,992,2016,0,8160,16383,32767] [15] rfl J X (by kernel_rfl) (by kernel_rfl) (by kernel_rfl) (by kernel_rfl) fun w X=>?_
    obtain⟨c8,b2,G⟩:=bnd G
    obtain⟨cs,hV,j3⟩:=el (X.rd 2 rfl) b2
    obtain rfl:=hV
    refine⟨[(0,(pP a)),(1,(pP a)),(2,.pointer (some ⟨a,1,none⟩)),(3,.slice o a9 b1),(4,.int .i64 l),(5,(pP a)),(6,(pP a)),(7,.pointer (some ⟨a,1,none⟩)),(8,.slice o a9 b1),(9,.int .i64 l),(10,.pointer (some (ea o (l.toNat * 1)))),(11,.int .i64 c8),(12,.int .i64 m),(13,.int .i64 c8),(14,.pointer (some (ea o (l.toNat * 1))))],?_⟩
    refine dF [0,1,2,3,4,5,6,7,8,9,10,11,12,13,14] [15] (by kernel_rfl) ⟨pm rfl,pt [(80,_)] rfl (fun U J=>dC rfl (J.ev rfl)),pt [(81,_)] rfl (fun U J=>eR wA J rfl rfl),pt [(82,_)] rfl (fun U J=>cM wQ (X.cell 0 rfl 1 _ rfl) J rfl rfl rfl),pm rfl,pm rfl,pt [(85,_)] rfl (fun U J=>dC rfl (J.ev rfl)),pt [(86,_)] rfl (fun U J=>eR wA J rfl rfl),pt [(87,_)] rfl (fun U J=>cM wQ (X.cell 0 rfl 1 _ rfl) J rfl rfl rfl),pm rfl,pt [(88,_),(89,_)] rfl (fun U J=>fH wQ sz3 (X.rd 2 rfl) b2 J rfl rfl rfl),pt [(90,_)] rfl (fun U J=>cM uu3 (j3 0 _ rfl) J rfl rfl rfl),pm rfl,pm rfl,pt [(83,_),(84,_)] rfl (fun U J=>fH wQ sz3 (X.rd 2 rfl) b2 J rfl rfl rfl),trivial⟩ ⟨et [(92,_),(93,_)] rfl (fun U J K hK=>?_),trivial⟩
    refine xD (z':=m) (off:=0) (vs:=[.int .i64 m]) 2 sz3 J X rfl (dQ b2).2.2 (fun c h=>by cases h; rfl) (fun  w X=>?_) rfl rfl rfl rfl rfl rfl
    refine hK _ [] _ rfl (gK [] (by kernel_rfl) trivial ⟨by kernel_rfl,by kernel_rfl⟩ [(0,_),(2,_),(5,_),(6,_),(7,_),(8,_)] rfl (fun U J=>?_))
    replace X:=X.pk 2 |>.pk 4 |>.pk 4 |>.pk 4
    exact hb2 a8.2.f0 (a8.2.f1.set l.toNat m) c8 G e1 e2 e3 o a9 b1 U w (J.sub _ rfl) X
   replace X:=X.pk 2 |>.pk 2 |>.pk 4 |>.pk 4 |>.pk 4
   exact wp_skip (hb2 a8.2.f0 a8.2.f1 m G e1 e2 e3 o a9 b1 U w (J.sub _ rfl) X)
  cases G
  exact wp_exit (i0 c3 c4 m (i3 _ rfl) R S T W Y a1 U w (J.sub _ rfl) X)
theorem aLb {a0 A0 n0 c0 y} (G:rV a0=some y) (X:SH r (L) w) (qz:Nat) (hZ:L[qz]?=some (zone Z wz)) (ha0:RdL L (kM Z wz k47) A0 n0 c0 a0) :
  Ret Tryz.prog 60 #[.slice A0 n0 c0] w fun v w'=>∃ (B0:Option Addr) (m0:Nat) (d0:Nat),v=.tuple #[(.slice B0 m0 d0),(.int .i64 y.2)]∧SH r (own k47 47 B0 m0 d0 y.1::L) w':=by
 refine enter Tryz.func60 rfl Tryz.ntmps60 [(0,_)] rfl (by simp) ?_
 intro U J Qf hQ hQn
 unfold rV at G
 refine nz 2 J rfl fun U J=>ws fun b7 E=>xk 1 J rfl fun U J=>?_
 obtain⟨b8,F,G⟩:=bnd G
 refine x_c bB1 J rfl (aKn F X (qz+0) hZ (RdL.sfx 0 rfl ha0) :) fun v U w hR J=>?_
 obtain⟨B,rfl,X⟩:=hR
 refine nk 5 J rfl fun U J=>E _ _ (wp_seq_k fun b9 H=>?_)
 refine nz 2 J rfl fun U J=>bA J G rfl (fun I G=>?_) fun I G=>?_
 ·refine nz 3 J rfl fun U J=>?_
  replace X:=(SH.nil_own (d:=k47) (e:=47) X).drop 1
  cases G
  refine wp_ret (hQ _ _ ?_)
  exact lv2 Tryz.results60 J rfl rfl ⟨none,0,0,rfl,X⟩
 refine wp_skip (H _ _ ?_)
 refine nz 1 J rfl fun U J=>wp_seq_k fun c1 K=>ws fun c2 M=>xk 1 J rfl fun U J=>?_
 obtain⟨c3,N,G⟩:=bnd G
 refine x_c aYb J rfl (xC N X (qz+0) hZ :) fun v U w hR J=>?_
 obtain⟨rfl,X⟩:=hR
 refine xk 4 J rfl fun U J=>gZ (cs:=[.int .u64 0,.int .i64 0,.int .i64 0,str [],.float .f64 0]) aJ0 J X (fun O U w X J=>?_) rfl
 refine dH 0 cH J X rfl (fun  U w X J=>?_) rfl
 refine nk 2 J rfl fun U J=>M _ _ (aA fun C P=>?_)
 have hb1:∀A,vG A=some y→∀l m n U w,FR 37 [] U [(6,.slice l m n)]→SH r (own k47 47 l m n A::L) w→C U w:=by
  intro A G l m n U w J X
  unfold vG at G
  refine P _ _ (K _ _ ?_)
  refine nz 3 J rfl fun U J=>?_
  cases G
  refine wp_ret (hQ _ _ ?_)
  exact lv2 Tryz.results60 J rfl rfl ⟨l,m,n,rfl,X⟩
 obtain⟨Q,R,G⟩:=bnd G
 have S:∀i,(i)=Q→∀o p q U w,FR 37 [] U [(6,.slice o p q)]→SH r (own k47 47 o p q i::L) w→C U w:=by
  intro i ht o p q U w J X
  subst ht
  replace G:tH i=some y:=G
  unfold tH at G
  exact hb1 i G o p q U w (J.sub _ rfl) X
 replace X:=(SH.nil_own (d:=k47) (e:=47) X).pk 2 |>.pk 2
 refine aD R (fun s U w=>∃t x z k,FR 37 [] U [(4,.pointer B),(6,.slice t x z),(7,(pP k)),(9,.bool s.2.2.2.2.2.2.2)]∧SH r (blk k 47 [.int .u64 s.2.2.1,.int .i64 s.2.2.2.1,.int .i64 s.2.2.2.2.1,str s.2.2.2.2.2.1,.float .f64 s.2.2.2.2.2.2.1]::sS (obj151 Z wz) B s.1::own k47 47 t x z s.2.1::L) w) ⟨none,0,0,O,J.sub _ rfl,X⟩ ?_
 intro c4 T W G Y a1 U w hLab
 obtain⟨a2,D,a,b,c,f,g,a3⟩:=T
 replace G:sA a2 D a b c f g a3=some W:=G
 unfold sA at G
 try dsimp only at hLab
 obtain⟨t,x,z,k,J,X⟩:=hLab
 refine wp_seq_k fun c5 a4=>nz 1 J rfl fun U J=>bA J G rfl (fun a5 G=>?_) fun a5 G=>?_
 ·refine wp_skip (a4 _ _ ?_)
  refine wp_seq_k fun c6 a6=>aA fun c7 a7=>aC (x_m J rfl fun U J=>?_)
  refine lH (ad:=⟨k,0,none⟩) (cs:=[.int .u64 a,.int .i64 b,.int .i64 c,str f,.float .f64 g]) lL cH (fun j u h=>by rw [nF,Nat.zero_add]; exact X.cell 0 rfl j u h) J (fun U J=>?_) rfl
  refine iM (d:=k47) (e:=47) (ps:=#[(0,.agg #[.int .u64 a,.int .i64 b,.int .i64 c,str f,.float .f64 g])]) (cells:=[.int .u64 a,.int .i64 b,.int .i64 c,str f,.float .f64 g]) (xs:=[(⟨a,b,c,f,g⟩:S47)]) (fun w=>by kernel_rfl) rfl ⟨[.int .u64 a,.int .i64 b,.int .i64 c,str f,.float .f64 g],_,rfl,rfl,rfl⟩ J X (fun c8 U w X J=>?_) rfl
  obtain⟨a8,G⟩:=aB G
  have hr:=X.rd 0 rfl
  refine gH 3 aB5 eG J X hr.1 hr.2.1 a8 rfl (fun a9 b1 b2 U w X J=>?_) rfl
  refine x_m J rfl fun U J=>wpList_nil (a7 _ _ ?_)
  refine a6 _ _ (wp_seq_k fun c9 b3=>?_)
  refine ws fun d1 b4=>lH (ad:=⟨k,0,none⟩) (cs:=[.int .u64 a,.int .i64 b,.int .i64 c,str f,.float .f64 g]) lL cH (fun j u h=>by rw [nF,Nat.zero_add]; exact X.cell 2 rfl j u h) J (fun U J=>?_) rfl
  refine wn (b4 _ _ ?_)
  refine aC (gZ (cs:=[.int .u64 0,.int .i64 0,.int .i64 0,str [],.float .f64 0]) aJ0 J X (fun b5 U w X J=>?_) rfl)
  refine dH 0 cH J X rfl (fun  U w X J=>?_) rfl
  refine wn (b3 _ _ ?_)
  refine aC (x_m J rfl fun U J=>?_)
  replace X:=X.pk 4
  obtain⟨d2,b6,G⟩:=bnd G
  refine x_c aYb J rfl (xC b6 X (qz+4) hZ :) fun v U w hR J=>?_
  obtain⟨rfl,X⟩:=hR
  refine xk 4 J rfl fun U J=>dH 1 cH J X rfl (fun  U w X J=>?_) rfl
  refine x_m J rfl fun U J=>wpList_nil ?_
  replace X:=X.drop 3 |>.drop 3
  cases G
  exact⟨_,Y _ rfl,a9,b1,b2,b5,J.sub _ rfl,X⟩
 replace X:=X.drop 0 |>.drop 0
 cases G
 exact wp_exit (S D (a1 _ rfl) t x z U w (J.sub _ rfl) X)
end
theorem aUu {i:Int} (h : -9223372036854775808≤i∧i≤9223372036854775807):IntKind.i64.wrap i=i:=by rw [IntKind.wrap_i64]; omega
theorem aMt {A:Option Addr} {sz q m k:Nat} (hq:1≤q) (h:k * q<m) :
    Value.slice (if (k * q+min q (m - k * q))=k * q then A else A.map (·.add (k * q * sz))) (k * q+min q (m - k * q) - k * q) (k * q+min q (m - k * q) - k * q)=pcv A sz q m k:=by
  rw [if_neg (by omega),Nat.add_sub_cancel_left]
  rfl
set_option maxRecDepth 100000 in
set_option maxHeartbeats 2000000 in
theorem yB {r w:World} {L:List HP} {A:Option Addr} {n c:Nat} {k:Int} (hk:1≤k) (hS:SH r L w) :
    Ret Tryz.prog 40 #[.slice A n c,.int .i64 k] w fun v w'=>∃ g1 g2,v=.func (.func 52) #[] #[.pointer (some ⟨g1,0,none⟩),.pointer (some ⟨g2,0,none⟩)]∧SH r (blk g1 22 [.slice A n c]::blk g2 3 [.int .i64 k]::L) w':=by
  refine enter Tryz.func40 rfl Tryz.ntmps40 [(0,_),(1,_)] rfl (by simp) ?_
  intro ac hA Qf hQ hQn
  refine wp_seq_k fun K1 hK1=>?_
  refine aC ?_
  refine aFc hA hS (fun g1 ac w hS hA=>?_) rfl rfl rfl rfl rfl rfl
  refine aFc hA hS (fun g2 ac w hS hA=>?_) rfl rfl rfl rfl rfl rfl
  refine kZ hA (fun ac hA=>?_) rfl rfl rfl rfl rfl
  refine wpList_nil ?_
  refine hK1 _ _ ?_
  refine wp_seq_k fun K2 hK2=>?_
  refine wp_seq_k fun K3 hK3=>?_
  refine aC ?_
  refine aLi Tryz.underlying3 (hS.cell 0 rfl 0 _ rfl) hA (fun ac hA=>?_) rfl rfl rfl rfl rfl rfl
  refine iW hA (qX rfl (hA.ev rfl) (hA.ev rfl)) (fun ac hA=>?_) rfl rfl rfl
  refine wpList_nil ?_
  refine hK3 _ _ ?_
  refine c_f (by simp; omega) hA ?_ rfl
  refine wp_skip ?_
  refine hK2 _ _ ?_
  refine wp_seq_k fun K4 hK4=>?_
  refine aC ?_
  refine iW hA (mL rfl (rW (vals:=#[]) hA rfl) (rW (vals:=#[.pointer (some ⟨g1,0,none⟩),.pointer (some ⟨g2,0,none⟩)]) hA rfl)) (fun ac hA=>?_) rfl rfl rfl
  refine kZ hA (fun ac hA=>?_) rfl rfl rfl rfl rfl
  refine wpList_nil ?_
  refine hK4 _ _ ?_
  refine wp_ret ?_
  refine hQ _ _ ?_
  refine lv Tryz.results40 hA rfl ?_
  exact⟨g1,g2,rfl,hS.pk 1⟩
theorem aV8:(Tryz.prog.info? 47).map (·.size)=some 5:=by kernel_rfl
set_option maxRecDepth 100000 in
set_option maxHeartbeats 4000000 in
theorem chunk_hands47:HandsS Tryz.prog 52 5:=by
  intro l b1 b2 A m c q J Jx hq1 hq2 hmc hc hmx hAs hJ hY w h0
  refine CallsIn.mono (R:=fun e w'=>∃ v,e=.returned v∧(J ((m+q - 1) / q) w'∨Jx w')) (callsIn_wide.2 ?_) fun e w' ⟨v,he,h⟩=>⟨⟨v,he⟩,h⟩
  refine enter Tryz.func52 rfl Tryz.ntmps52 [(0,.func (.yield l) #[] #[]),(1,.pointer (some ⟨b1,0,none⟩)),(2,.pointer (some ⟨b2,0,none⟩))] rfl (by simp) ?_
  intro ac hA Qf hQ hQn
  refine wp_seq_k fun K1 hK1=>?_
  refine aC ?_
  refine kZ hA (fun ac hA=>?_) rfl rfl rfl rfl rfl
  refine wpList_nil ?_
  refine hK1 _ _ ?_
  refine aA fun Kx hKx=>?_
  refine wp_loop (fun a w=>∃ k:Nat,FR 31 [] a [(4,.int .i64 (k * q:Nat)),(0,.func (.yield l) #[] #[]),(1,.pointer (some ⟨b1,0,none⟩)),(2,.pointer (some ⟨b2,0,none⟩))]∧J k w∧k≤(m+q - 1) / q)
    (fun a w=>match a.tmps.getD 4 undef with | .int _ i=>(m+q) - i.toNat | _=>0) ⟨0,by simpa using hA,h0,Nat.zero_le _⟩ ?_
  rintro a w ⟨k,hA,hJk,hkN⟩
  have h4:a.tmps.getD 4 undef=.int .i64 (k * q:Nat):=hA.ev (x:=.tmp 4) rfl
  obtain⟨hc1,hc2,hdr⟩:=hJ k w hJk
  refine wp_seq_k fun K2 hK2=>?_
  refine wp_seq_k fun K3 hK3=>?_
  refine aC ?_
  refine sP hA (fun ac hA=>?_) rfl rfl rfl rfl rfl
  refine aLi Tryz.underlying22 hc1 hA (fun ac hA=>?_) rfl rfl rfl rfl rfl rfl
  refine iW hA (aDv Tryz.underlying22 rfl (hA.ev rfl)) (fun ac hA=>?_) rfl rfl rfl
  refine iW hA (qX rfl (hA.ev rfl) (hA.ev rfl)) (fun ac hA=>?_) rfl rfl rfl
  refine wpList_nil ?_
  refine hK3 _ _ ?_
  refine zQ hA rfl (fun hb=>?_) fun hb=>?_
  · have hlt:k * q<m:=by have:=of_decide_eq_true hb; omega
    have hkq:k * q≤4611686018427387904:=by omega
    have hkN':=(xY hq1).1 hlt
    refine wp_skip ?_
    refine hK2 _ _ ?_
    refine wp_seq_k fun K4 hK4=>?_
    refine aA fun Kb hKb=>?_
    refine wp_seq_k fun K5 hK5=>?_
    refine wp_region_any rfl (aIr [0,0,0,6,14,31,63] [] hA (by kernel_rfl) (by kernel_rfl) (by kernel_rfl) (by kernel_rfl) ?_)
    obtain⟨hd1,hd2,hdd⟩:=hJ k _ hdr
    refine⟨[(0,.int .i64 (q:Nat)),(1,.slice A m c),(2,.int .i64 (k * q:Nat)),(3,.slice (if c=((k * q:Nat):Int).toNat then A else A.map (·.add (((k * q:Nat):Int).toNat * 5))) (m - ((k * q:Nat):Int).toNat) (c - ((k * q:Nat):Int).toNat)),(4,.int .i64 ((m - ((k * q:Nat):Int).toNat:Nat):Int)),(5,.int .i64 (if ((m - ((k * q:Nat):Int).toNat:Nat):Int)<((q:Nat):Int) then ((m - ((k * q:Nat):Int).toNat:Nat):Int) else ((q:Nat):Int))),(6,.int .i64 (if ((m - ((k * q:Nat):Int).toNat:Nat):Int)<((q:Nat):Int) then ((m - ((k * q:Nat):Int).toNat:Nat):Int) else ((q:Nat):Int)))],?_⟩
    refine gK [0,1,2,3,4,5,6] (by kernel_rfl) ⟨?_,?_,?_,?_,?_,?_,?_,trivial⟩ ⟨by kernel_rfl,by kernel_rfl⟩ [(5,.int .i64 (min q (m - k * q):Nat)),(4,.int .i64 (k * q:Nat)),(0,.func (.yield l) #[] #[]),(1,.pointer (some ⟨b1,0,none⟩)),(2,.pointer (some ⟨b2,0,none⟩))] ?_ (fun ac hA=>?_)
    · exact pu rfl rfl [(2,.pointer (some ⟨b2,0,none⟩))] (fun ac hA=>cM Tryz.underlying3 hd2 hA rfl rfl rfl) rfl rfl
    · exact pu rfl rfl [(1,.pointer (some ⟨b1,0,none⟩))] (fun ac hA=>cM Tryz.underlying22 hd1 hA rfl rfl rfl) rfl rfl
    · exact pu rfl rfl [(4,.int .i64 (k * q:Nat))] (fun ac hA=>nY rfl (hA.ev rfl)) rfl rfl
    · exact pu rfl rfl [(14,.slice A m c),(15,.int .i64 (k * q:Nat))] (fun ac hA=>kK Tryz.underlying22 aV8 rfl (hA.ev rfl) (hA.ev rfl) (by omega) (by omega)) rfl rfl
    · exact pu rfl rfl [(16,.slice (if c=((k * q:Nat):Int).toNat then A else A.map (·.add (((k * q:Nat):Int).toNat * 5))) (m - ((k * q:Nat):Int).toNat) (c - ((k * q:Nat):Int).toNat))] (fun ac hA=>aDv Tryz.underlying22 rfl (hA.ev rfl)) rfl rfl
    · exact pu rfl rfl [(13,.int .i64 (q:Nat)),(17,.int .i64 ((m - ((k * q:Nat):Int).toNat:Nat):Int))] (fun ac hA=>aJa rfl (hA.ev rfl) (hA.ev rfl)) rfl rfl
    · exact pu rfl rfl [(18,.int .i64 (if ((m - ((k * q:Nat):Int).toNat:Nat):Int)<((q:Nat):Int) then ((m - ((k * q:Nat):Int).toNat:Nat):Int) else ((q:Nat):Int)))] (fun ac hA=>xA rfl (hA.ev rfl)) rfl rfl
    · have e:(if ((m - ((k * q:Nat):Int).toNat:Nat):Int)<((q:Nat):Int) then ((m - ((k * q:Nat):Int).toNat:Nat):Int) else ((q:Nat):Int))=(min q (m - k * q):Nat):=by
        rw [show ((k * q:Nat):Int).toNat=k * q from by omega]
        split <;> omega
      rw [e]
      rfl
    refine hK5 _ _ ?_
    refine wp_seq_k fun K6 hK6=>?_
    refine (wpIn_wide (n:=6)).1 (wpIn_region_list ?_)
    refine lM hA (nY rfl (hA.ev rfl)) (fun ac hA=>?_) rfl rfl rfl rfl
    refine lM hA (cM Tryz.underlying22 hd1 hA rfl rfl rfl) (fun ac hA=>?_) rfl rfl rfl rfl
    refine lM hA (nY rfl (hA.ev rfl)) (fun ac hA=>?_) rfl rfl rfl rfl
    refine lM hA (nY rfl (hA.ev rfl)) (fun ac hA=>?_) rfl rfl rfl rfl
    refine lM hA (nY rfl (hA.ev rfl)) (fun ac hA=>?_) rfl rfl rfl rfl
    refine lM hA (iP rfl (hA.ev rfl) (hA.ev rfl)) (fun ac hA=>?_) rfl rfl rfl rfl
    refine lM hA (nY rfl (hA.ev rfl)) (fun ac hA=>?_) rfl rfl rfl rfl
    refine lM hA (nY rfl (hA.ev rfl)) (fun ac hA=>?_) rfl rfl rfl rfl
    refine lM hA (iP rfl (hA.ev rfl) (hA.ev rfl)) (fun ac hA=>?_) rfl rfl rfl rfl
    have ew:IntKind.i64.wrap (((k * q:Nat):Int)+((min q (m - k * q):Nat):Int))=((k * q+min q (m - k * q):Nat):Int):=by
      rw [show ((k * q:Nat):Int)+((min q (m - k * q):Nat):Int)=((k * q+min q (m - k * q):Nat):Int) from by omega]
      exact aUu (by omega)
    rw [ew] at hA
    refine lM (v:=pcv A 5 q m k) hA ?_ (fun ac hA=>?_) rfl rfl rfl rfl
    · rw [← aMt hq1 hlt]
      refine aE5 ?_ (aAl (sz:=5) Tryz.underlying22 aV8 rfl (hA.ev rfl) (hA.ev rfl) (hA.ev rfl) (hA.ev rfl) ⟨by omega,by omega,by omega,by omega⟩)
      simp only [Int.toNat_natCast]
    refine aH6 hA (hY k _ hdr hlt) (fun e w' h=>h.elim fun b h=>⟨b,h.1⟩) (fun b ac w3 hR hA=>?_) rfl rfl rfl rfl rfl rfl
    refine lM hA (aCc rfl (hA.ev rfl)) (fun ac hA=>?_) rfl rfl rfl rfl
    refine wpListIn_nil ?_
    refine hK6 _ _ ?_
    obtain⟨b',he,hR⟩:=hR
    cases he
    cases b with
    | false =>
      refine c_t (b := !false) rfl hA ?_ rfl
      refine wp_ret ?_
      refine hQ _ _ ?_
      exact lv0 Tryz.results52 hA (.inr hR)
    | true =>
    refine c_f (b := !true) rfl hA ?_ rfl
    refine wp_skip ?_
    refine hKb _ _ ?_
    refine hK4 _ _ ?_
    have hJ3:J (k+1) w3:=hR
    obtain⟨_,hc3,_⟩:=hJ _ _ hJ3
    refine aC ?_
    refine sP hA (fun ac hA=>?_) rfl rfl rfl rfl rfl
    refine aLi Tryz.underlying3 hc3 hA (fun ac hA=>?_) rfl rfl rfl rfl rfl rfl
    refine iW hA (iP rfl (hA.ev rfl) (hA.ev rfl)) (fun ac hA=>?_) rfl rfl rfl
    refine kZ hA (fun ac hA=>?_) rfl rfl rfl rfl rfl
    refine wpList_nil ?_
    have ew2:IntKind.i64.wrap (((k * q:Nat):Int)+((q:Nat):Int))=(((k+1) * q:Nat):Int):=by
      rw [show ((k * q:Nat):Int)+((q:Nat):Int)=(((k+1) * q:Nat):Int) from by rw [Nat.add_mul]; omega]
      exact aUu (by rw [Nat.add_mul]; omega)
    rw [ew2] at hA
    refine⟨⟨k+1,hA.sub _ rfl,hJ3,hkN'⟩,?_⟩
    rw [h4,show ac.tmps.getD 4 undef=.int .i64 ((k+1) * q:Nat) from hA.ev (x:=.tmp 4) rfl]
    simp only [Int.toNat_natCast,Nat.add_mul]
    omega
  · have hge:¬ k * q<m:=by have:=of_decide_eq_false hb; omega
    have hkN':¬ k<(m+q - 1) / q:=fun h=>hge ((xY hq1).2 h)
    refine wp_exit ?_
    refine hKx _ _ ?_
    refine hQn _ _ ?_
    refine aCy Tryz.results52 hA ?_
    rw [show (m+q - 1) / q=k from by omega]
    exact .inl hJk
set_option maxRecDepth 100000 in
set_option maxHeartbeats 2000000 in
theorem aEe {r w:World} {L:List HP} {A:Option Addr} {n c:Nat} {k:Int} (hk:1≤k) (hS:SH r L w) :
    Ret Tryz.prog 43 #[.slice A n c,.int .i64 k] w fun v w'=>∃ g1 g2,v=.func (.func 59) #[] #[.pointer (some ⟨g1,0,none⟩),.pointer (some ⟨g2,0,none⟩)]∧SH r (blk g1 37 [.slice A n c]::blk g2 3 [.int .i64 k]::L) w':=by
  refine enter Tryz.func43 rfl Tryz.ntmps43 [(0,_),(1,_)] rfl (by simp) ?_
  intro ac hA Qf hQ hQn
  refine wp_seq_k fun K1 hK1=>?_
  refine aC ?_
  refine aFc hA hS (fun g1 ac w hS hA=>?_) rfl rfl rfl rfl rfl rfl
  refine aFc hA hS (fun g2 ac w hS hA=>?_) rfl rfl rfl rfl rfl rfl
  refine kZ hA (fun ac hA=>?_) rfl rfl rfl rfl rfl
  refine wpList_nil ?_
  refine hK1 _ _ ?_
  refine wp_seq_k fun K2 hK2=>?_
  refine wp_seq_k fun K3 hK3=>?_
  refine aC ?_
  refine aLi Tryz.underlying3 (hS.cell 0 rfl 0 _ rfl) hA (fun ac hA=>?_) rfl rfl rfl rfl rfl rfl
  refine iW hA (qX rfl (hA.ev rfl) (hA.ev rfl)) (fun ac hA=>?_) rfl rfl rfl
  refine wpList_nil ?_
  refine hK3 _ _ ?_
  refine c_f (by simp; omega) hA ?_ rfl
  refine wp_skip ?_
  refine hK2 _ _ ?_
  refine wp_seq_k fun K4 hK4=>?_
  refine aC ?_
  refine iW hA (mL rfl (rW (vals:=#[]) hA rfl) (rW (vals:=#[.pointer (some ⟨g1,0,none⟩),.pointer (some ⟨g2,0,none⟩)]) hA rfl)) (fun ac hA=>?_) rfl rfl rfl
  refine kZ hA (fun ac hA=>?_) rfl rfl rfl rfl rfl
  refine wpList_nil ?_
  refine hK4 _ _ ?_
  refine wp_ret ?_
  refine hQ _ _ ?_
  refine lv Tryz.results43 hA rfl ?_
  exact⟨g1,g2,rfl,hS.pk 1⟩
theorem aYr:(Tryz.prog.info? 9).map (·.size)=some 1:=by kernel_rfl
set_option maxRecDepth 100000 in
set_option maxHeartbeats 4000000 in
theorem aI6:HandsS Tryz.prog 59 1:=by
  intro l b1 b2 A m c q J Jx hq1 hq2 hmc hc hmx hAs hJ hY w h0
  refine CallsIn.mono (R:=fun e w'=>∃ v,e=.returned v∧(J ((m+q - 1) / q) w'∨Jx w')) (callsIn_wide.2 ?_) fun e w' ⟨v,he,h⟩=>⟨⟨v,he⟩,h⟩
  refine enter Tryz.func59 rfl Tryz.ntmps59 [(0,.func (.yield l) #[] #[]),(1,.pointer (some ⟨b1,0,none⟩)),(2,.pointer (some ⟨b2,0,none⟩))] rfl (by simp) ?_
  intro ac hA Qf hQ hQn
  refine wp_seq_k fun K1 hK1=>?_
  refine aC ?_
  refine kZ hA (fun ac hA=>?_) rfl rfl rfl rfl rfl
  refine wpList_nil ?_
  refine hK1 _ _ ?_
  refine aA fun Kx hKx=>?_
  refine wp_loop (fun a w=>∃ k:Nat,FR 31 [] a [(4,.int .i64 (k * q:Nat)),(0,.func (.yield l) #[] #[]),(1,.pointer (some ⟨b1,0,none⟩)),(2,.pointer (some ⟨b2,0,none⟩))]∧J k w∧k≤(m+q - 1) / q)
    (fun a w=>match a.tmps.getD 4 undef with | .int _ i=>(m+q) - i.toNat | _=>0) ⟨0,by simpa using hA,h0,Nat.zero_le _⟩ ?_
  rintro a w ⟨k,hA,hJk,hkN⟩
  have h4:a.tmps.getD 4 undef=.int .i64 (k * q:Nat):=hA.ev (x:=.tmp 4) rfl
  obtain⟨hc1,hc2,hdr⟩:=hJ k w hJk
  refine wp_seq_k fun K2 hK2=>?_
  refine wp_seq_k fun K3 hK3=>?_
  refine aC ?_
  refine sP hA (fun ac hA=>?_) rfl rfl rfl rfl rfl
  refine aLi Tryz.underlying37 hc1 hA (fun ac hA=>?_) rfl rfl rfl rfl rfl rfl
  refine iW hA (aDv Tryz.underlying37 rfl (hA.ev rfl)) (fun ac hA=>?_) rfl rfl rfl
  refine iW hA (qX rfl (hA.ev rfl) (hA.ev rfl)) (fun ac hA=>?_) rfl rfl rfl
  refine wpList_nil ?_
  refine hK3 _ _ ?_
  refine zQ hA rfl (fun hb=>?_) fun hb=>?_
  · have hlt:k * q<m:=by have:=of_decide_eq_true hb; omega
    have hkq:k * q≤4611686018427387904:=by omega
    have hkN':=(xY hq1).1 hlt
    refine wp_skip ?_
    refine hK2 _ _ ?_
    refine wp_seq_k fun K4 hK4=>?_
    refine aA fun Kb hKb=>?_
    refine wp_seq_k fun K5 hK5=>?_
    refine wp_region_any rfl (aIr [0,0,0,6,14,31,63] [] hA (by kernel_rfl) (by kernel_rfl) (by kernel_rfl) (by kernel_rfl) ?_)
    obtain⟨hd1,hd2,hdd⟩:=hJ k _ hdr
    refine⟨[(0,.int .i64 (q:Nat)),(1,.slice A m c),(2,.int .i64 (k * q:Nat)),(3,.slice (if c=((k * q:Nat):Int).toNat then A else A.map (·.add (((k * q:Nat):Int).toNat * 1))) (m - ((k * q:Nat):Int).toNat) (c - ((k * q:Nat):Int).toNat)),(4,.int .i64 ((m - ((k * q:Nat):Int).toNat:Nat):Int)),(5,.int .i64 (if ((m - ((k * q:Nat):Int).toNat:Nat):Int)<((q:Nat):Int) then ((m - ((k * q:Nat):Int).toNat:Nat):Int) else ((q:Nat):Int))),(6,.int .i64 (if ((m - ((k * q:Nat):Int).toNat:Nat):Int)<((q:Nat):Int) then ((m - ((k * q:Nat):Int).toNat:Nat):Int) else ((q:Nat):Int)))],?_⟩
    refine gK [0,1,2,3,4,5,6] (by kernel_rfl) ⟨?_,?_,?_,?_,?_,?_,?_,trivial⟩ ⟨by kernel_rfl,by kernel_rfl⟩ [(5,.int .i64 (min q (m - k * q):Nat)),(4,.int .i64 (k * q:Nat)),(0,.func (.yield l) #[] #[]),(1,.pointer (some ⟨b1,0,none⟩)),(2,.pointer (some ⟨b2,0,none⟩))] ?_ (fun ac hA=>?_)
    · exact pu rfl rfl [(2,.pointer (some ⟨b2,0,none⟩))] (fun ac hA=>cM Tryz.underlying3 hd2 hA rfl rfl rfl) rfl rfl
    · exact pu rfl rfl [(1,.pointer (some ⟨b1,0,none⟩))] (fun ac hA=>cM Tryz.underlying37 hd1 hA rfl rfl rfl) rfl rfl
    · exact pu rfl rfl [(4,.int .i64 (k * q:Nat))] (fun ac hA=>nY rfl (hA.ev rfl)) rfl rfl
    · exact pu rfl rfl [(14,.slice A m c),(15,.int .i64 (k * q:Nat))] (fun ac hA=>kK Tryz.underlying37 aYr rfl (hA.ev rfl) (hA.ev rfl) (by omega) (by omega)) rfl rfl
    · exact pu rfl rfl [(16,.slice (if c=((k * q:Nat):Int).toNat then A else A.map (·.add (((k * q:Nat):Int).toNat * 1))) (m - ((k * q:Nat):Int).toNat) (c - ((k * q:Nat):Int).toNat))] (fun ac hA=>aDv Tryz.underlying37 rfl (hA.ev rfl)) rfl rfl
    · exact pu rfl rfl [(13,.int .i64 (q:Nat)),(17,.int .i64 ((m - ((k * q:Nat):Int).toNat:Nat):Int))] (fun ac hA=>aJa rfl (hA.ev rfl) (hA.ev rfl)) rfl rfl
    · exact pu rfl rfl [(18,.int .i64 (if ((m - ((k * q:Nat):Int).toNat:Nat):Int)<((q:Nat):Int) then ((m - ((k * q:Nat):Int).toNat:Nat):Int) else ((q:Nat):Int)))] (fun ac hA=>xA rfl (hA.ev rfl)) rfl rfl
    · have e:(if ((m - ((k * q:Nat):Int).toNat:Nat):Int)<((q:Nat):Int) then ((m - ((k * q:Nat):Int).toNat:Nat):Int) else ((q:Nat):Int))=(min q (m - k * q):Nat):=by
        rw [show ((k * q:Nat):Int).toNat=k * q from by omega]
        split <;> omega
      rw [e]
      rfl
    refine hK5 _ _ ?_
    refine wp_seq_k fun K6 hK6=>?_
    refine (wpIn_wide (n:=6)).1 (wpIn_region_list ?_)
    refine lM hA (nY rfl (hA.ev rfl)) (fun ac hA=>?_) rfl rfl rfl rfl
    refine lM hA (cM Tryz.underlying37 hd1 hA rfl rfl rfl) (fun ac hA=>?_) rfl rfl rfl rfl
    refine lM hA (nY rfl (hA.ev rfl)) (fun ac hA=>?_) rfl rfl rfl rfl
    refine lM hA (nY rfl (hA.ev rfl)) (fun ac hA=>?_) rfl rfl rfl rfl
    refine lM hA (nY rfl (hA.ev rfl)) (fun ac hA=>?_) rfl rfl rfl rfl
    refine lM hA (iP rfl (hA.ev rfl) (hA.ev rfl)) (fun ac hA=>?_) rfl rfl rfl rfl
    refine lM hA (nY rfl (hA.ev rfl)) (fun ac hA=>?_) rfl rfl rfl rfl
    refine lM hA (nY rfl (hA.ev rfl)) (fun ac hA=>?_) rfl rfl rfl rfl
    refine lM hA (iP rfl (hA.ev rfl) (hA.ev rfl)) (fun ac hA=>?_) rfl rfl rfl rfl
    have ew:IntKind.i64.wrap (((k * q:Nat):Int)+((min q (m - k * q):Nat):Int))=((k * q+min q (m - k * q):Nat):Int):=by
      rw [show ((k * q:Nat):Int)+((min q (m - k * q):Nat):Int)=((k * q+min q (m - k * q):Nat):Int) from by omega]
      exact aUu (by omega)
    rw [ew] at hA
    refine lM (v:=pcv A 1 q m k) hA ?_ (fun ac hA=>?_) rfl rfl rfl rfl
    · rw [← aMt hq1 hlt]
      refine aE5 ?_ (aAl (sz:=1) Tryz.underlying37 aYr rfl (hA.ev rfl) (hA.ev rfl) (hA.ev rfl) (hA.ev rfl) ⟨by omega,by omega,by omega,by omega⟩)
      simp only [Int.toNat_natCast]
    refine aH6 hA (hY k _ hdr hlt) (fun e w' h=>h.elim fun b h=>⟨b,h.1⟩) (fun b ac w3 hR hA=>?_) rfl rfl rfl rfl rfl rfl
    refine lM hA (aCc rfl (hA.ev rfl)) (fun ac hA=>?_) rfl rfl rfl rfl
    refine wpListIn_nil ?_
    refine hK6 _ _ ?_
    obtain⟨b',he,hR⟩:=hR
    cases he
    cases b with
    | false =>
      refine c_t (b := !false) rfl hA ?_ rfl
      refine wp_ret ?_
      refine hQ _ _ ?_
      exact lv0 Tryz.results59 hA (.inr hR)
    | true =>
    refine c_f (b := !true) rfl hA ?_ rfl
    refine wp_skip ?_
    refine hKb _ _ ?_
    refine hK4 _ _ ?_
    have hJ3:J (k+1) w3:=hR
    obtain⟨_,hc3,_⟩:=hJ _ _ hJ3
    refine aC ?_
    refine sP hA (fun ac hA=>?_) rfl rfl rfl rfl rfl
    refine aLi Tryz.underlying3 hc3 hA (fun ac hA=>?_) rfl rfl rfl rfl rfl rfl
    refine iW hA (iP rfl (hA.ev rfl) (hA.ev rfl)) (fun ac hA=>?_) rfl rfl rfl
    refine kZ hA (fun ac hA=>?_) rfl rfl rfl rfl rfl
    refine wpList_nil ?_
    have ew2:IntKind.i64.wrap (((k * q:Nat):Int)+((q:Nat):Int))=(((k+1) * q:Nat):Int):=by
      rw [show ((k * q:Nat):Int)+((q:Nat):Int)=(((k+1) * q:Nat):Int) from by rw [Nat.add_mul]; omega]
      exact aUu (by rw [Nat.add_mul]; omega)
    rw [ew2] at hA
    refine⟨⟨k+1,hA.sub _ rfl,hJ3,hkN'⟩,?_⟩
    rw [h4,show ac.tmps.getD 4 undef=.int .i64 ((k+1) * q:Nat) from hA.ev (x:=.tmp 4) rfl]
    simp only [Int.toNat_natCast,Nat.add_mul]
    omega
  · have hge:¬ k * q<m:=by have:=of_decide_eq_false hb; omega
    have hkN':¬ k<(m+q - 1) / q:=fun h=>hge ((xY hq1).2 h)
    refine wp_exit ?_
    refine hKx _ _ ?_
    refine hQn _ _ ?_
    refine aCy Tryz.results59 hA ?_
    rw [show (m+q - 1) / q=k from by omega]
    exact .inl hJk
noncomputable section
set_option linter.unusedSimpArgs false
def lA (a0:(List UInt8)) (a1:(List UInt8)):Option (Bool) :=
  if (decide ((a1.length:Int)≤(a0.length:Int)))=true then ((oP a0 0 (a1.length:Int)).bind fun a=>(some (a==a1))) else (some false)
def mG (a0:(List UInt8)) (a1:(List UInt8)):Option (Bool) :=
  (lA a0 a1).bind fun a=>(some a)
end
section
variable {r:World} {L:List HP} {w:World} {Z:Nat→Prop} {wz:World}
theorem yC {a0 a1 y} (G:lA a0 a1=some y) (X:SH r (L) w) :
  Ret Tryz.prog 47 #[str a0,str a1] w fun v w'=>v=.bool y∧SH r (L) w':=by
 refine enter Tryz.func47 rfl Tryz.ntmps47 [(0,_),(1,_)] rfl (by simp) ?_
 intro U J Qf hQ hQn
 unfold lA at G
 refine nz 1 J rfl fun U J=>ws fun d b=>xk 1 J rfl fun U J=>x_v J (aAb uu9 rfl (J.ev rfl)) rfl fun U J=>x_m J rfl fun U J=>x_v J (aAb uu9 rfl (J.ev rfl)) rfl fun U J=>xk 2 J rfl fun U J=>bcG G (fun a G=>?_) fun a G=>?_
 ·refine xg 2 a J rfl rfl fun U J=>aJ a J ?_ rfl
  refine x_v J (aAb uu9 rfl (J.ev rfl)) rfl fun U J=>aJ a J ?_ rfl
  obtain⟨e,c,G⟩:=bnd G
  refine aRm uu9 c J (fun U J=>?_) rfl
  refine xg 1 a J rfl rfl fun U J=>aJ a J ?_ rfl
  refine x_v J (aRq rfl (J.ev rfl) (J.ev rfl)) rfl fun U J=>ng 2 a J rfl rfl fun U J=>?_
  cases G
  refine b _ _ (wp_ret ?_)
  refine hQ _ _ (lv Tryz.results47 J rfl ?_)
  exact⟨rfl,X⟩
 refine ng 8 a J rfl rfl fun U J=>?_
 cases G
 refine b _ _ (wp_ret ?_)
 refine hQ _ _ (lv Tryz.results47 J rfl ?_)
 exact⟨rfl,X⟩
theorem aA8 {a0 a1 y} (G:mG a0 a1=some y) (X:SH r (L) w) :
  Ret Tryz.prog 32 #[str a0,str a1] w fun v w'=>v=.bool y∧SH r (L) w':=by
 refine enter Tryz.func32 rfl Tryz.ntmps32 [(0,_),(1,_)] rfl (by simp) ?_
 intro U J Qf hQ hQn
 unfold mG at G
 refine nz 1 J rfl fun U J=>ws fun c a=>xk 2 J rfl fun U J=>?_
 obtain⟨d,b,G⟩:=bnd G
 refine x_c bBl J rfl (yC b X :) fun v U w hR J=>?_
 obtain⟨rfl,X⟩:=hR
 refine x_m J rfl fun U J=>wn (a _ _ ?_)
 cases G
 refine wp_ret (hQ _ _ ?_)
 exact lv Tryz.results32 J rfl ⟨rfl,X⟩
end
end Go.Proofs.YtnefioccdkmegaaGreatDoor.M
namespace Go.Proofs
open Go.Shelf
def Tryz.itoaL_ren:Go.Shelf.Ren:=⟨fun | 171=>53 | 243=>65 | 246=>83 | 283=>106 | 284=>107 | 285=>108 | 286=>109 | 129=>126 | 317=>125 | 318=>127 | 319=>128 | 320=>129 | 337=>137 | 338=>138 | n=>n,fun | 3=>3 | 9=>9 | 2=>2 | 4=>4 | 171=>165 | 0=>0 | 53=>44 | 37=>32 | 5=>5 | 173=>168 | 212=>182 | 51=>146 | 20=>20 | 213=>183 | 46=>93 | 232=>198 | 233=>199 | n=>n,fun | 17=>2 | 18=>3 | 19=>4 | n=>n⟩
theorem Tryz.itoaL:Go.Proofs.LaysM.n171 Tryz.prog Tryz.itoaL_ren:={
  mixed:=by kernel_rfl
  f129:=Tryz.func126.trans (congrArg some (by kernel_rfl))
  f171:=Tryz.func53.trans (congrArg some (by kernel_rfl))
  f243:=Tryz.func65.trans (congrArg some (by kernel_rfl))
  f246:=Tryz.func83.trans (congrArg some (by kernel_rfl))
  f283:=Tryz.func106.trans (congrArg some (by kernel_rfl))
  f284:=Tryz.func107.trans (congrArg some (by kernel_rfl))
  f285:=Tryz.func108.trans (congrArg some (by kernel_rfl))
  f286:=Tryz.func109.trans (congrArg some (by kernel_rfl))
  f317:=Tryz.func125.trans (congrArg some (by kernel_rfl))
  f318:=Tryz.func127.trans (congrArg some (by kernel_rfl))
  f319:=Tryz.func128.trans (congrArg some (by kernel_rfl))
  f320:=Tryz.func129.trans (congrArg some (by kernel_rfl))
  f337:=Tryz.func137.trans (congrArg some (by kernel_rfl))
  f338:=Tryz.func138.trans (congrArg some (by kernel_rfl))
  t0:=Tryz.underlying0
  a0:=Tryz.isAgg0
  z0:=Tryz.sizeOf0
  v0:=Tryz.zeroValue0
  t2:=Tryz.underlying2
  a2:=Tryz.isAgg2
  z2:=Tryz.sizeOf2
  v2:=Tryz.zeroValue2
  t3:=Tryz.underlying3
  a3:=Tryz.isAgg3
  z3:=Tryz.sizeOf3
  v3:=Tryz.zeroValue3
  t4:=Tryz.underlying4
  a4:=Tryz.isAgg4
  z4:=Tryz.sizeOf4
  v4:=Tryz.zeroValue4
  t5:=Tryz.underlying5
  a5:=Tryz.isAgg5
  z5:=Tryz.sizeOf5
  v5:=Tryz.zeroValue5
  t9:=Tryz.underlying9
  a9:=Tryz.isAgg9
  z9:=Tryz.sizeOf9
  v9:=Tryz.zeroValue9
  t20:=Tryz.underlying20
  a20:=Tryz.isAgg20
  z20:=Tryz.sizeOf20
  v20:=Tryz.zeroValue20
  t37:=Tryz.underlying32
  a37:=Tryz.isAgg32
  z37:=Tryz.sizeOf32
  v37:=Tryz.zeroValue32
  t46:=Tryz.underlying93
  a46:=Tryz.isAgg93
  z46:=Tryz.sizeOf93
  v46:=Tryz.zeroValue93
  t51:=Tryz.underlying146
  a51:=Tryz.isAgg146
  z51:=Tryz.sizeOf146
  v51:=Tryz.zeroValue146
  t53:=Tryz.underlying44
  a53:=Tryz.isAgg44
  z53:=Tryz.sizeOf44
  v53:=Tryz.zeroValue44
  t171:=Tryz.underlying165
  a171:=Tryz.isAgg165
  z171:=Tryz.sizeOf165
  v171:=Tryz.zeroValue165
  t173:=Tryz.underlying168
  a173:=Tryz.isAgg168
  z173:=Tryz.sizeOf168
  v173:=Tryz.zeroValue168
  t212:=Tryz.underlying182
  a212:=Tryz.isAgg182
  z212:=Tryz.sizeOf182
  v212:=Tryz.zeroValue182
  t213:=Tryz.underlying183
  a213:=Tryz.isAgg183
  z213:=Tryz.sizeOf183
  t232:=Tryz.underlying198
  a232:=Tryz.isAgg198
  z232:=Tryz.sizeOf198
  v232:=Tryz.zeroValue198
  t233:=Tryz.underlying199
  a233:=Tryz.isAgg199
  z233:=Tryz.sizeOf199
  v233:=Tryz.zeroValue199
  g17:=by kernel_rfl
  g18:=by kernel_rfl
  g19:=by kernel_rfl
  i0:=by kernel_rfl
  i2:=by kernel_rfl
  i3:=by kernel_rfl
  i4:=by kernel_rfl
  i5:=by kernel_rfl
  i9:=by kernel_rfl
  i20:=by kernel_rfl
  i37:=by kernel_rfl
  i46:=by kernel_rfl
  i51:=by kernel_rfl
  i53:=by kernel_rfl
  i171:=by kernel_rfl
  i173:=by kernel_rfl
  i212:=by kernel_rfl
  i232:=by kernel_rfl
  i233:=by kernel_rfl
  m17:=by kernel_rfl
  m18:=by kernel_rfl
  m19:=by kernel_rfl }
end Go.Proofs
namespace Go.Proofs.YtnefioccdkmegaaGreatDoor.M
open Go Go.RowKit Go.Proofs.YtnefioccdkmegaaGreatDoor.E
set_option linter.unusedVariables false
noncomputable section
set_option linter.unusedSimpArgs false
def strconv_Itoa (a0:Int):Option ((List UInt8)) :=
  chk (0≤a0∧a0≤4294967295) (some (Lib.itoa a0))
end
set_option maxRecDepth 100000
set_option maxHeartbeats 4000000
set_option linter.unusedSimpArgs false
section
variable {r:World} {L:List HP} {w:World} {Z:Nat→Prop} {wz:World}
theorem aFq {a0 y} (G:strconv_Itoa a0=some y) (X:SH r (L) w) (qz:Nat) (hZ:L[qz]?=some (zone Z wz)) (hG2:Gb Z wz 2 .u64 cO) :
  Ret Tryz.prog 53 #[.int .i64 a0] w fun v w'=>v=str y∧SH r (L) w':=by
 obtain⟨hc,G⟩:=aB G
 cases G
 refine Calls.mono (Any.strconv_Itoa Tryz.itoaL a0 (by omega) (by omega) w (Gb.tab ((show cO=Lib.pow10Tab from by decide)▸hG2) X qz hZ (by kernel_rfl))) ?_
 rintro e w' ⟨rfl,k,os,rfl⟩
 exact⟨_,rfl,rfl,(X.drewN k).grow os⟩
end
noncomputable section
set_option linter.unusedSimpArgs false
def eJ (a0:(List (S64×Hd))) (k0:Nat) (a1:Int) (a2:(List (S64×Hd))):Option ((List (S64×Hd))) :=
  (oP a0 a1 (a0.length:Int)).bind fun c=>(if ((a2.length:Int)==0)=true then (some a0) else (if (a1==(a0.length:Int))=true then (chk (a0.length+a2.length≤140737488355328 / 48) (some (a0++a2))) else (ltt (IntKind.i64.wrap ((a0.length:Int)+(a2.length:Int))) fun a=>(if (decide (((k0:Nat):Int)<a))=true then ((oP a0 0 a1).bind fun j=>(ltt (IntKind.i64.wrap (a - a1)) fun g=>(chk (0<g∧k0<a1.toNat+g.toNat∧(a1.toNat+g.toNat) * 48≤140737488355328) (ltt (j++List.replicate g.toNat (((⟨[],[],0⟩:S64),none,0,0):S64×Hd)) fun d=>(chk (0≤a1∧a1<(d.length:Int)) (chk (0<(a2.take (min a2.length (d.length - a1.toNat))).length∧(0+a1.toNat)+(a2.take (min a2.length (d.length - a1.toNat))).length≤d.length) (ltt (d.take (0+a1.toNat)++a2.take (min a2.length (d.length - a1.toNat))++d.drop ((0+a1.toNat)+(a2.take (min a2.length (d.length - a1.toNat))).length)) fun e=>(ltt (IntKind.i64.wrap (a1+(a2.length:Int))) fun b=>(chk (0≤b∧b<(e.length:Int)) (chk (0<(c.take (min c.length (e.length - b.toNat))).length∧(0+b.toNat)+(c.take (min c.length (e.length - b.toNat))).length≤e.length) (ltt (e.take (0+b.toNat)++c.take (min c.length (e.length - b.toNat))++e.drop ((0+b.toNat)+(c.take (min c.length (e.length - b.toNat))).length)) fun k=>(some k)))))))))))) else (chk (0<k0) (chk (0≤a∧a≤(k0:Int)) (ltt (IntKind.i64.wrap (a1+(a2.length:Int))) fun f=>(chk (0≤f∧f<((a.toNat:Nat):Int)∧a.toNat≤k0) (chk (0<a2.length∧0<k0) (chk (0≤f∧f<((a.toNat:Nat):Int)∧a.toNat≤k0) (chk (0≤a1∧a1<((a.toNat:Nat):Int)∧a.toNat≤k0) ((rdo (a0.map some++List.replicate (k0 - a0.length) none) (0+a1.toNat) (min (a.toNat - a1.toNat) (a.toNat - f.toNat))).bind fun h=>(chk (0<h.length∧(0+f.toNat)+h.length≤k0) (ltt ((a0.map some++List.replicate (k0 - a0.length) none).take (0+f.toNat)++h.map some++(a0.map some++List.replicate (k0 - a0.length) none).drop ((0+f.toNat)+h.length)) fun i=>(chk (0≤a1∧a1<((a.toNat:Nat):Int)∧a.toNat≤k0) (chk (0<(a2.take (min a2.length (a.toNat - a1.toNat))).length∧(0+a1.toNat)+(a2.take (min a2.length (a.toNat - a1.toNat))).length≤k0) (ltt (i.take (0+a1.toNat)++(a2.take (min a2.length (a.toNat - a1.toNat))).map some++i.drop ((0+a1.toNat)+(a2.take (min a2.length (a.toNat - a1.toNat))).length)) fun l=>((rdo l 0 a.toNat).bind fun m=>(some m)))))))))))))))))))
def eP (a0:(List (S64×Hd))) (k0:Nat) (a1:Int) (a2:Int):Option ((List (S64×Hd))) :=
  chk (0≤a1∧a1≤a2∧a2≤(a0.length:Int)∧(a0.length:Int)≤(a0.length:Int)) (if (a1==a2)=true then (some a0) else (chk (0<k0) (chk (0≤a1∧a1≤(k0:Int)) (chk (0≤a2∧a2≤((a0.length:Nat):Int)∧a0.length≤k0) ((rdo (a0.map some++List.replicate (k0 - a0.length) none) (0+a2.toNat) (a0.length - a2.toNat)).bind fun b=>(chk (a1.toNat+(a0.length - a2.toNat)≤k0) (ltt ((a0.map some++List.replicate (k0 - a0.length) none).take a1.toNat++b.map some++(a0.map some++List.replicate (k0 - a0.length) none).drop (a1.toNat+(a0.length - a2.toNat))) fun a=>(chk (0≤(((a1.toNat+(a0.length - a2.toNat)):Nat):Int)∧(((a1.toNat+(a0.length - a2.toNat)):Nat):Int)<(a0.length:Int)∧(a0.length:Int)≤((k0:Nat):Int)) (chk (0<((a0.length:Int).toNat - (((a1.toNat+(a0.length - a2.toNat)):Nat):Int).toNat)∧(0+(((a1.toNat+(a0.length - a2.toNat)):Nat):Int).toNat)+((a0.length:Int).toNat - (((a1.toNat+(a0.length - a2.toNat)):Nat):Int).toNat)≤k0) (ltt (a.take (0+(((a1.toNat+(a0.length - a2.toNat)):Nat):Int).toNat)++(List.replicate ((a0.length:Int).toNat - (((a1.toNat+(a0.length - a2.toNat)):Nat):Int).toNat) (((⟨[],[],0⟩:S64),none,0,0):S64×Hd)).map some++a.drop ((0+(((a1.toNat+(a0.length - a2.toNat)):Nat):Int).toNat)+((a0.length:Int).toNat - (((a1.toNat+(a0.length - a2.toNat)):Nat):Int).toNat))) fun c=>((rdo c 0 (a1.toNat+(a0.length - a2.toNat))).bind fun d=>(some d))))))))))))
end
section
variable {r:World} {L:List HP} {w:World} {Z:Nat→Prop} {wz:World}
theorem pY {a0 k0 a1 a2 A0 n0 A2 n2 c2 y} (G:eJ a0 k0 a1 a2=some y) (X:SH r (own kp64 64 A0 n0 k0 a0::own kp64 64 A2 n2 c2 a2::L) w) :
  Ret Tryz.prog 27 #[.slice A0 n0 k0,.int .i64 a1,.slice A2 n2 c2] w fun v w'=>∃ (B0:Option Addr) (m0:Nat) (d0:Nat),v=.slice B0 m0 d0∧SH r (own kp64 64 B0 m0 d0 y::L) w':=by
 refine enter Tryz.func27 rfl Tryz.ntmps27 [(0,_),(1,_),(2,_)] rfl (by simp) ?_
 intro U J Qf hQ hQn
 unfold eJ at G
 obtain rfl:=(X.rd 0 rfl).2.1
 obtain rfl:=(X.rd 1 rfl).2.1
 refine nz 1 J rfl fun U J=>ws fun c6 q=>xk 2 J rfl fun U J=>?_
 obtain⟨m,e,G⟩:=bnd G
 refine x_v J (kK jS qO rfl (J.ev rfl) (J.ev rfl) (tG (X.rd 0 rfl) e).1 (tG (X.rd 0 rfl) e).2.2.2.2.2) rfl fun U J=>wn (q _ _ ?_)
 refine ws fun c7 s=>xk 1 J rfl fun U J=>aU jS (X.rd 1 rfl).2.1 J (fun U J=>?_) rfl
 refine x_m J rfl fun U J=>wn (s _ _ ?_)
 refine wp_seq_k fun c8 t=>nz 2 J rfl fun U J=>bA J G rfl (fun u G=>?_) fun u G=>?_
 ·refine nz 2 J rfl fun U J=>?_
  replace X:=X.drop 1
  cases G
  refine wp_ret (hQ _ _ ?_)
  exact lv Tryz.results27 J rfl ⟨A0,a0.length,k0,rfl,X⟩
 refine wp_skip (t _ _ ?_)
 refine ws fun c9 x=>xk 1 J rfl fun U J=>aU jS (X.rd 0 rfl).2.1 J (fun U J=>?_) rfl
 refine x_m J rfl fun U J=>wn (x _ _ ?_)
 refine wp_seq_k fun d1 z=>nz 3 J rfl fun U J=>bA J G rfl (fun A G=>?_) fun A G=>?_
 ·refine ws fun d2 B=>xk 2 J rfl fun U J=>?_
  obtain⟨C,G⟩:=aB G
  have hr:=X.rd 1 rfl
  refine gH 0 aVc jS J X hr.1 hr.2.1 C rfl (fun D E F U w X J=>?_) rfl
  refine x_m J rfl fun U J=>wn (B _ _ ?_)
  replace X:=X.drop 1
  cases G
  refine wp_ret (hQ _ _ ?_)
  exact lv Tryz.results27 J rfl ⟨D,E,F,rfl,X⟩
 refine wp_skip (z _ _ ?_)
 refine wp_seq_k fun d3 H=>ws fun d4 I=>xk 2 J rfl fun U J=>x_l G J rfl fun a n U J G=>x_m J rfl fun U J=>x_v J (aZs jS rfl (J.ev rfl)) rfl fun U J=>nk 1 J rfl fun U J=>I _ _ (bA J G rfl (fun M G=>?_) fun M G=>?_)
 ·refine ws fun d5 N=>xk 2 J rfl fun U J=>?_
  obtain⟨d6,g,G⟩:=bnd G
  refine x_v J (wD jS qO rfl (J.ev rfl) (J.ev rfl) (tG (X.rd 0 rfl) g).2.2.2.2.1 (tG (X.rd 0 rfl) g).2.2.1) rfl fun U J=>xk 2 J rfl fun U J=>x_v (v:=.int .i64 a) J (kQ n (iP rfl (J.ev rfl) (J.ev rfl))) rfl fun U J=>x_m J rfl fun U J=>x_l G J rfl fun h _ U J G=>?_
  obtain⟨O,G⟩:=aB G
  refine aXf (((⟨[],[],0⟩:S64),none,0,0):S64×Hd) jS uu3 aVc rfl J X (aWa (X.rd 0 rfl) g).1 (aWa (X.rd 0 rfl) g).2.1 O (fun i j U w X J=>?_) rfl
  obtain⟨P,Q,G⟩:=nO G
  rw [← Q] at X
  refine x_m J rfl fun U J=>wn (N _ _ ?_)
  refine ws fun d7 R=>xk 2 J rfl fun U J=>?_
  obtain⟨S,G⟩:=aB G
  have k:=X.rd 0 rfl
  refine x_v (v:=.slice (some ⟨i,(0+a1.toNat) * 3,none⟩) ((a1.toNat+h.toNat) - a1.toNat) (j - a1.toNat)) J (aAx (lo:=0) jS qO rfl (J.ev rfl) (J.ev rfl) ⟨S.1,by have:=k.2.1; omega,k.2.2.1⟩) rfl fun U J=>x_m J rfl fun U J=>?_
  obtain⟨T,G⟩:=aB G
  refine aW0 (lo:=(0+a1.toNat)) (zs:=a2.take (min a2.length (P.length - a1.toNat))) 0 jS qO J X (Rd.take_ (X.rd 2 rfl).1 _) (cpk (X.rd 2 rfl).2.1 (by have:=k.2.1; omega)) T rfl (fun d8 U w X J=>?_) rfl
  obtain⟨W,Y,G⟩:=nO G
  rw [← Y] at X
  refine wn (R _ _ ?_)
  refine wp_seq_k fun d9 Z=>cP [0,0,0,6,15,0,0,96,255] [8] rfl J X (by kernel_rfl) (by kernel_rfl) (by kernel_rfl) (by kernel_rfl) fun w X=>?_
  obtain⟨f,a3,G⟩:=nO G
  obtain⟨a4,G⟩:=aB G
  have l:=X.rd 0 rfl
  refine⟨[(0,.slice (some ⟨i,0,none⟩) (a1.toNat+h.toNat) j),(1,.int .i64 a1),(2,.int .i64 (a2.length:Int)),(3,.int .i64 f),(4,.slice (some ⟨i,(0+f.toNat) * 3,none⟩) ((a1.toNat+h.toNat) - f.toNat) (j - f.toNat)),(5,.slice A0 a0.length k0),(6,.int .i64 a1),(7,.slice (if k0=a1.toNat then A0 else A0.map (·.add (a1.toNat * 3))) (a0.length - a1.toNat) (k0 - a1.toNat))],?_⟩
  refine dF [0,1,2,3,4,5,6,7] [8] (by kernel_rfl) ⟨pm rfl,pm rfl,pm rfl,pt [(47,_),(48,_)] rfl fun U J=>kQ a3 (iP rfl (J.ev rfl) (J.ev rfl)),pt [(46,_),(49,_)] rfl fun U J=>aAx (lo:=0) jS qO rfl (J.ev rfl) (J.ev rfl) ⟨a4.1,by have:=l.2.1; omega,l.2.2.1⟩,pm rfl,pm rfl,pt [(51,_),(52,_)] rfl (fun U J=>kK jS qO rfl (J.ev rfl) (J.ev rfl) (tG (X.rd 1 rfl) e).1 (tG (X.rd 1 rfl) e).2.2.2.2.2),trivial⟩ ⟨et [(50,_),(53,_)] rfl (fun U J K hK=>?_),trivial⟩
  obtain⟨a5,G⟩:=aB G
  refine aWu (lo:=(0+f.toNat)) (zs:=m.take (min m.length (W.length - f.toNat))) 0 jS qO J X (Rd.take_ (aXr (X.rd 1 rfl) e).1 _) (cpk (aXr (X.rd 1 rfl) e).2.1 (by have:=l.2.1; omega)) a5 rfl (fun e0 w X=>?_) rfl
  obtain⟨e1,a6,G⟩:=nO G
  rw [← a6] at X
  refine hK _ [] _ rfl (gK [] (by kernel_rfl) trivial ⟨by kernel_rfl,by kernel_rfl⟩ [(9,_)] rfl (fun U J=>?_))
  refine Z _ _ (nz 2 J rfl fun U J=>?_)
  replace X:=X.drop 1 |>.drop 1
  cases G
  refine wp_ret (hQ _ _ ?_)
  exact lv Tryz.results27 J rfl ⟨some ⟨i,0,none⟩,a1.toNat+h.toNat,j,rfl,X⟩
 refine wp_skip (H _ _ ?_)
 refine wp_seq_k fun e2 a7=>?_
 obtain⟨a8,G⟩:=aB G
 have hQ0:=aFv a8 X
 clear X
 obtain⟨d,rfl,X⟩:=hQ0
 refine aC (xk 3 J rfl fun U J=>?_)
 refine x_v (v:=.int .i64 a) J (kQ n (iP rfl (J.ev rfl) (J.ev rfl))) rfl fun U J=>?_
 obtain⟨o,G⟩:=aB G
 refine x_v J (wD jS qO rfl (J.ev rfl) (J.ev rfl) o.1 o.2) rfl fun U J=>x_m J rfl fun U J=>wn (a7 _ _ ?_)
 refine wp_seq_k fun e3 e4=>ws fun e5 a9=>xk 4 J rfl fun U J=>x_l G J rfl fun c b1 U J G=>?_
 obtain⟨b2,G⟩:=aB G
 refine x_v (v:=.slice (some ⟨d,(0+c.toNat) * 3,none⟩) (a.toNat - c.toNat) (k0 - c.toNat)) J (aAx (lo:=0) jS qO rfl (J.ev rfl) (J.ev rfl) b2) rfl fun U J=>?_
 obtain⟨b3,G⟩:=aB G
 refine x_v (v:=.bool false) J (aXq (aZd (aP0 jS qO X 1 0 rfl rfl (by decide) b3)) rfl (evs J rfl)) rfl fun U J=>nk 1 J rfl fun U J=>a9 _ _ (c_t (b:=true) rfl J ?_ rfl)
 refine wp_seq_k fun e6 b4=>cP [0,0,0,6,15,0,0,96,255] [8] rfl J X (by kernel_rfl) (by kernel_rfl) (by kernel_rfl) (by kernel_rfl) fun w X=>?_
 obtain⟨b5,G⟩:=aB G
 obtain⟨b6,G⟩:=aB G
 refine⟨[(0,.slice (some ⟨d,0,none⟩) a.toNat k0),(1,.int .i64 a1),(2,.int .i64 (a2.length:Int)),(3,.int .i64 c),(4,.slice (some ⟨d,(0+c.toNat) * 3,none⟩) (a.toNat - c.toNat) (k0 - c.toNat)),(5,.slice (some ⟨d,0,none⟩) a.toNat k0),(6,.int .i64 a1),(7,.slice (some ⟨d,(0+a1.toNat) * 3,none⟩) (a.toNat - a1.toNat) (k0 - a1.toNat))],?_⟩
 refine dF [0,1,2,3,4,5,6,7] [8] (by kernel_rfl) ⟨pm rfl,pm rfl,pm rfl,pt [(70,_),(71,_)] rfl fun U J=>kQ b1 (iP rfl (J.ev rfl) (J.ev rfl)),pt [(69,_),(72,_)] rfl fun U J=>aAx (lo:=0) jS qO rfl (J.ev rfl) (J.ev rfl) b5,pm rfl,pm rfl,pt [(74,_),(75,_)] rfl fun U J=>aAx (lo:=0) jS qO rfl (J.ev rfl) (J.ev rfl) b6,trivial⟩ ⟨et [(73,_),(76,_)] rfl (fun U J K hK=>?_),trivial⟩
 obtain⟨b7,p,G⟩:=bnd G
 obtain⟨b8,G⟩:=aB G
 refine aXm (lo:=(0+c.toNat)) (zs:=b7) 0 jS qO J X (aSf (lo:=(0+a1.toNat)) X 0 rfl (aAi p).2.1) (aAi p).1 b8 rfl (fun e7 w X=>?_) rfl
 obtain⟨e8,b9,G⟩:=nO G
 rw [← b9] at X
 refine hK _ [] _ rfl (gK [] (by kernel_rfl) trivial ⟨by kernel_rfl,by kernel_rfl⟩ [(0,_),(1,_),(2,_)] rfl (fun U J=>?_))
 refine b4 _ _ (ws fun e9 c0=>?_)
 refine xk 2 J rfl fun U J=>?_
 obtain⟨c1,G⟩:=aB G
 refine x_v (v:=.slice (some ⟨d,(0+a1.toNat) * 3,none⟩) (a.toNat - a1.toNat) (k0 - a1.toNat)) J (aAx (lo:=0) jS qO rfl (J.ev rfl) (J.ev rfl) c1) rfl fun U J=>x_m J rfl fun U J=>?_
 obtain⟨c3,G⟩:=aB G
 refine aXo (lo:=(0+a1.toNat)) (zs:=a2.take (min a2.length (a.toNat - a1.toNat))) 0 jS qO J X (Rd.take_ (X.rd 1 rfl).1 _) (cpk (X.rd 1 rfl).2.1 rfl) c3 rfl (fun f0 U w X J=>?_) rfl
 obtain⟨f1,c4,G⟩:=nO G
 rw [← c4] at X
 refine wn (c0 _ _ ?_)
 refine nz 2 J rfl fun U J=>?_
 obtain⟨f2,c5,G⟩:=bnd G
 replace X:=(aNb X c5).drop 1
 cases G
 refine wp_ret (hQ _ _ ?_)
 exact lv Tryz.results27 J rfl ⟨some ⟨d,0,none⟩,a.toNat,k0,rfl,X⟩
theorem qA {a0 k0 a1 a2 A0 n0 y} (G:eP a0 k0 a1 a2=some y) (X:SH r (own kp64 64 A0 n0 k0 a0::L) w) :
  Ret Tryz.prog 50 #[.slice A0 n0 k0,.int .i64 a1,.int .i64 a2] w fun v w'=>∃ (B0:Option Addr) (m0:Nat) (d0:Nat),v=.slice B0 m0 d0∧SH r (own kp64 64 B0 m0 d0 y::L) w':=by
 refine enter Tryz.func50 rfl Tryz.ntmps50 [(0,_),(1,_),(2,_)] rfl (by simp) ?_
 intro U J Qf hQ hQn
 unfold eP at G
 obtain rfl:=(X.rd 0 rfl).2.1
 refine nz 1 J rfl fun U J=>ws fun u f=>xk 4 J rfl fun U J=>aU jS (X.rd 0 rfl).2.1 J (fun U J=>?_) rfl
 obtain⟨b,G⟩:=aB G
 refine x_v J (aAl jS qO rfl (J.ev rfl) (J.ev rfl) (J.ev rfl) (J.ev rfl) ⟨b.1,b.2.1,b.2.2.1,by have:=(X.rd 0 rfl).2; omega⟩) rfl fun U J=>wn (f _ _ ?_)
 refine wp_seq_k fun x g=>nz 3 J rfl fun U J=>bA J G rfl (fun h G=>?_) fun h G=>?_
 ·refine nz 2 J rfl fun U J=>?_
  cases G
  refine wp_ret (hQ _ _ ?_)
  exact lv Tryz.results50 J rfl ⟨A0,a0.length,k0,rfl,X⟩
 refine wp_skip (g _ _ ?_)
 refine ws fun z i=>xk 1 J rfl fun U J=>aU jS (X.rd 0 rfl).2.1 J (fun U J=>?_) rfl
 refine x_m J rfl fun U J=>wn (i _ _ ?_)
 refine wp_seq_k fun A j=>?_
 obtain⟨k,G⟩:=aB G
 have hQ0:=aFv k X
 clear X
 obtain⟨a,rfl,X⟩:=hQ0
 refine cP [0,0,3,0,0,24,63,127] [6] rfl J X (by kernel_rfl) (by kernel_rfl) (by kernel_rfl) (by kernel_rfl) fun w X=>?_
 obtain⟨d,G⟩:=aB G
 obtain⟨c,G⟩:=aB G
 refine⟨[(0,.slice (some ⟨a,0,none⟩) a0.length k0),(1,.int .i64 a1),(2,.slice (some ⟨a,0,none⟩) a1.toNat k0),(3,.slice (some ⟨a,0,none⟩) a0.length k0),(4,.int .i64 a2),(5,.slice (if k0=a2.toNat then (some ⟨a,0,none⟩) else (some (⟨a,0,none⟩:Addr)).map (·.add (a2.toNat * 3))) (a0.length - a2.toNat) (k0 - a2.toNat))],?_⟩
 refine dF [0,1,2,3,4,5] [6] (by kernel_rfl) ⟨pm rfl,pm rfl,pt [(20,_),(21,_)] rfl (fun U J=>wD jS qO rfl (J.ev rfl) (J.ev rfl) d.1 d.2),pm rfl,pm rfl,pt [(23,_),(24,_)] rfl (fun U J=>kK jS qO rfl (J.ev rfl) (J.ev rfl) c.1 c.2.1),trivial⟩ ⟨et [(22,_),(25,_)] rfl (fun U J K hK=>?_),trivial⟩
 obtain⟨B,e,G⟩:=bnd G
 obtain⟨l,G⟩:=aB G
 refine aW1 0 jS qO J X (aTy (lo:=0) (L0:=a2.toNat) (m:=a0.length) X 0 rfl e ⟨rfl,c.2.2⟩) (aAi e).1 l rfl (fun  w X=>?_) rfl
 obtain⟨C,n,G⟩:=nO G
 rw [← n] at X
 refine hK _ [(7,.slice (some ⟨a,0,none⟩) (a1.toNat+(a0.length - a2.toNat)) k0)] _ rfl (gK [7] (by kernel_rfl) ⟨pm rfl,trivial⟩ ⟨by kernel_rfl,by kernel_rfl⟩ [(0,_),(7,_)] rfl (fun U J=>?_))
 refine j _ _ (ws fun D o=>?_)
 refine xk 2 J rfl fun U J=>x_v J (aDv jS rfl (J.ev rfl)) rfl fun U J=>x_m J rfl fun U J=>?_
 obtain⟨p,G⟩:=aB G
 refine x_v (v:=.slice (some ⟨a,(0+(((a1.toNat+(a0.length - a2.toNat)):Nat):Int).toNat) * 3,none⟩) ((a0.length:Int).toNat - (((a1.toNat+(a0.length - a2.toNat)):Nat):Int).toNat) (k0 - (((a1.toNat+(a0.length - a2.toNat)):Nat):Int).toNat)) J (aPz (lo:=0) jS qO rfl (J.ev rfl) (J.ev rfl) (J.ev rfl) p) rfl fun U J=>?_
 obtain⟨q,G⟩:=aB G
 refine aT8 (lo:=(0+(((a1.toNat+(a0.length - a2.toNat)):Nat):Int).toNat)) (z0:=(((⟨[],[],0⟩:S64),none,0,0):S64×Hd)) 0 jS aWd rfl J X q rfl (fun U w X J=>?_) rfl
 obtain⟨E,s,G⟩:=nO G
 rw [← s] at X
 refine wn (o _ _ ?_)
 refine nz 2 J rfl fun U J=>?_
 obtain⟨F,t,G⟩:=bnd G
 replace X:=aNb X t
 cases G
 refine wp_ret (hQ _ _ ?_)
 exact lv Tryz.results50 J rfl ⟨some ⟨a,0,none⟩,a1.toNat+(a0.length - a2.toNat),k0,rfl,X⟩
end
theorem aLf {α:Type} {xs:List α} {l u:Nat} (h:l≤u) (hu:u≤xs.length):oP xs (l:Int) (u:Int)=some ((xs.take u).drop l):=by
  unfold oP; rw [if_pos (by omega)]; simp
theorem fS {α:Type} {p:Prop} [Decidable p] {x:Option α} (h:p):chk p x=x:=if_pos h
theorem aW8 {n:Int} (h : -9223372036854775808≤n) (h':n≤9223372036854775807):IntKind.i64.wrap n=n:=IntWalk.i64_in n ⟨h,h'⟩
theorem aY1 {α β:Type} (e:α) (f:α→Option β):ltt e f=f e:=rfl
section
variable {α:Type}
theorem aCz (A C:List (Option α)) (B:List α) {lo k:Nat} (hlo:A.length=lo) (hk:B.length=k):rdo (A++(B.map some++C)) lo k=some B:=by
  unfold rdo
  rw [if_pos (by simp; omega), ← hlo,List.drop_left, ← hk,show B.length=(B.map some).length by simp,List.take_left,aK2]
theorem aOc (A B:List α) {k:Nat} (m:Nat) (h:A.length=k):(A++B).drop (k+m)=B.drop m:=by
  subst h; rw [List.drop_append,List.drop_of_length_le (by omega),List.nil_append,Nat.add_sub_cancel_left]
theorem aAw (A B:List α) {k:Nat} (h:A.length=k):(A++B).take k=A:=by subst h; exact List.take_left
theorem aMc (A B:List α) {k:Nat} (h:A.length=k):(A++B).drop k=B:=by subst h; exact List.drop_left
end
theorem aTk (P D ys:List (S64×Hd)) (k0:Nat) (hk:P.length+D.length≤k0) (hb:(P.length+D.length+ys.length) * 48≤140737488355328) (hm:0<ys.length) :
    eJ (P++D) k0 (P.length:Int) ys=some (P++ys++D):=by
  unfold eJ
  have hl:(P++D).length=P.length+D.length:=List.length_append
  have c1:=aLf (xs:=P++D) (l:=P.length) (u:=(P++D).length) (by omega) (Nat.le_refl _)
  rw [List.take_length,List.drop_left] at c1
  rw [c1]
  simp only [Option.bind_some,aY1]
  rw [if_neg (by simp only [beq_iff_eq]; omega)]
  by_cases hD:D=[]
  · subst hD
    rw [if_pos (by simp),fS (by rw [hl]; simp only [List.length_nil] at hb ⊢; omega)]
    simp
  have hDl:0<D.length:=List.length_pos_iff.2 hD
  rw [if_neg (by simp only [beq_iff_eq,hl]; omega),hl,aW8 (n:=((P.length+D.length:Nat):Int)+(ys.length:Int)) (by omega) (by omega),
    show ((P.length+D.length:Nat):Int)+(ys.length:Int)=((P.length+D.length+ys.length:Nat):Int) by omega]
  have e2:IntKind.i64.wrap ((P.length:Int)+(ys.length:Int))=((P.length+ys.length:Nat):Int):=by rw [aW8 (by omega) (by omega)]; omega
  have e3:IntKind.i64.wrap (((P.length+D.length+ys.length:Nat):Int) - (P.length:Int))=((D.length+ys.length:Nat):Int):=by rw [aW8 (by omega) (by omega)]; omega
  rw [e2,e3]
  simp only [Int.toNat_natCast,Nat.zero_add]
  by_cases hg:k0<P.length+D.length+ys.length
  · rw [if_pos (by simp only [decide_eq_true_eq]; omega)]
    have c2:=aLf (xs:=P++D) (l:=0) (u:=P.length) (by omega) (by omega)
    rw [List.take_left,List.drop_zero,show ((0:Nat):Int)=0 from rfl] at c2
    rw [c2]
    simp only [Option.bind_some]
    generalize (((⟨[],[],0⟩:S64),none,0,0):S64×Hd)=z
    have q0:(P++List.replicate (D.length+ys.length) z).length=P.length+D.length+ys.length:=by simp; omega
    have q1:ys.take (min ys.length (P.length+D.length+ys.length - P.length))=ys:=List.take_of_length_le (by omega)
    have q2:(P++List.replicate (D.length+ys.length) z).take P.length++ys++(P++List.replicate (D.length+ys.length) z).drop (P.length+ys.length)=P++ys++List.replicate D.length z:=by
      rw [List.take_left,aOc _ _ _ rfl,List.drop_replicate]
      congr 2
      omega
    rw [fS (by omega),q0,q1,fS (by omega),fS (by omega),q2]
    have q3:(P++ys++List.replicate D.length z).length=P.length+D.length+ys.length:=by simp; omega
    rw [q3,fS (by omega)]
    have q4:D.take (min D.length (P.length+D.length+ys.length - (P.length+ys.length)))=D:=List.take_of_length_le (by omega)
    rw [q4,fS (by omega),aAw (P++ys) _ (by simp),List.drop_of_length_le (by omega),List.append_nil]
  · rw [if_neg (by simp only [decide_eq_true_eq]; omega),fS (by omega),fS (by omega),fS (by omega),fS (by omega),fS (by omega),fS (by omega)]
    have e4:(P++D).map some++List.replicate (k0 - (P.length+D.length)) none=P.map some++(D.map some++List.replicate (k0 - (P.length+D.length)) none):=by simp
    rw [e4,aCz (P.map some) _ D (by simp) (by omega)]
    simp only [Option.bind_some]
    have q1:ys.take (min ys.length (P.length+D.length+ys.length - P.length))=ys:=List.take_of_length_le (by omega)
    rw [fS (by omega),fS (by omega),q1,fS (by omega)]
    generalize hN:List.replicate (k0 - (P.length+D.length)) (none:Option (S64×Hd))=N
    have hNl:N.length=k0 - (P.length+D.length):=by rw [← hN]; simp
    obtain⟨O,hO⟩:∃ O,O=P.map some++(D.map some++N):=⟨_,rfl⟩
    rw [← hO]
    have hOl:O.length=k0:=by rw [hO]; simp [hNl]; omega
    have q5:(O.take (P.length+ys.length)).length=P.length+ys.length:=by rw [List.length_take]; omega
    have q6:(O.take (P.length+ys.length)++D.map some++O.drop (P.length+ys.length+D.length)).take P.length=P.map some:=by
      rw [List.append_assoc,List.take_append_of_le_length (by omega),List.take_take,Nat.min_eq_left (by omega),hO,aAw _ _ (by simp)]
    have q7:(O.take (P.length+ys.length)++D.map some++O.drop (P.length+ys.length+D.length)).drop (P.length+ys.length)=D.map some++O.drop (P.length+ys.length+D.length):=by
      rw [List.append_assoc,aMc _ _ q5]
    rw [q6,q7]
    have q8:P.map some++ys.map some++(D.map some++O.drop (P.length+ys.length+D.length))=[]++((P++ys++D).map some++O.drop (P.length+ys.length+D.length)):=by simp
    rw [q8,aCz [] _ (P++ys++D) (lo:=0) (k:=P.length+D.length+ys.length) rfl (by simp; omega)]
    rfl
theorem aTz (P D:List (S64×Hd)) (x:S64×Hd) (k0:Nat) (hk:P.length+1+D.length≤k0) (hb:k0≤9223372036854775807) :
    eP (P++x::D) k0 (P.length:Int) ((P.length:Int)+1)=some (P++D):=by
  unfold eP
  have hl:(P++x::D).length=P.length+1+D.length:=by simp; omega
  have t1:((P.length:Int)+1).toNat=P.length+1:=by omega
  rw [hl,t1,fS (by omega),if_neg (by simp; omega),fS (by omega),fS (by omega),fS (by omega)]
  simp only [Int.toNat_natCast,Nat.zero_add,aY1]
  rw [show P.length+1+D.length - (P.length+1)=D.length by omega]
  generalize hN:List.replicate (k0 - (P.length+1+D.length)) (none:Option (S64×Hd))=N
  have hNl:N.length=k0 - (P.length+1+D.length):=by rw [← hN]; simp
  have e4:(P++x::D).map some++N=(P.map some++[some x])++(D.map some++N):=by simp
  rw [e4,aCz (P.map some++[some x]) N D (by simp) rfl]
  simp only [Option.bind_some]
  obtain⟨O,hO⟩:∃ O,O=(P.map some++[some x])++(D.map some++N):=⟨_,rfl⟩
  rw [← hO]
  have hOl:O.length=k0:=by rw [hO]; simp [hNl]; omega
  have q6:O.take P.length=P.map some:=by rw [hO,List.append_assoc,aAw _ _ (by simp)]
  rw [q6,fS (by omega),fS (by omega),show P.length+1+D.length - (P.length+D.length)=1 by omega,fS (by omega)]
  have q9:((P.map some++D.map some++O.drop (P.length+D.length)).take (P.length+D.length))=(P++D).map some:=by
    rw [aAw _ _ (by simp)]; simp
  rw [q9]
  have q8:∀ X Y:List (Option (S64×Hd)),(P++D).map some++X++Y=[]++((P++D).map some++(X++Y)):=by intro X Y; simp
  rw [q8,aCz [] _ (P++D) (lo:=0) (k:=P.length+D.length) rfl (by simp)]
  rfl
section
variable {r w:World} {L:List HP} {α β:Type} {d:Kd β} {e':TypeId} {g:α→List β}
theorem yP:∀ {ps qs:List (α×Hd)} {L:List HP} {S:Nat→Prop},Sep (sU d e' g ps::sU d e' g qs::L) w S→Sep (sU d e' g (ps++qs)::L) w S
  | [],qs,L,S,h=>by
    have h1:Sep ([]++(sU d e' g qs::L)) w S:=Sep.unstar (Ls:=[]) h
    exact h1
  | p::ps,qs,L,S,h=>oH.2 ((oH.1 h).tl fun S hS=>yP hS)
theorem aD1:∀ {ps qs:List (α×Hd)} {L:List HP} {S:Nat→Prop},Sep (sU d e' g (ps++qs)::L) w S→Sep (sU d e' g ps::sU d e' g qs::L) w S
  | [],qs,L,S,h=>Sep.star (Ls:=[]) h
  | p::ps,qs,L,S,h=>oH.2 ((oH.1 h).tl fun S hS=>aD1 hS)
end
abbrev oF (A:Option Addr) (n c:Nat) (xs:List S64):HP:=own2 kp64 (kI .u8) 5 (fun x:S64=>x.f1) 64 A n c xs
def aRp (xs:List S64) (i:Int) (ys:List S64):Option (List S64):=if 0≤i∧i≤(xs.length:Int)∧0<ys.length∧(xs.length+ys.length) * 48≤140737488355328 then some (xs.take i.toNat++ys++xs.drop i.toNat) else none
def aTg (xs:List S64) (i j:Int):Option (List S64):=if 0≤i∧i<(xs.length:Int)∧j=i+1 then some (xs.eraseIdx i.toNat) else none
theorem aX8 {r w:World} {L:List HP} (xs:List S64) (i:Int) (ys:List S64) {A B:Option Addr} {n c m c2:Nat} {y:List S64} (hF:aRp xs i ys=some y) (hS:SH r (oF A n c xs::oF B m c2 ys::L) w) :
    Ret Tryz.prog 27 #[.slice A n c,.int .i64 i,.slice B m c2] w fun v w'=>∃ (A':Option Addr) (n' c':Nat),v=.slice A' n' c'∧SH r (oF A' n' c' y::L) w':=by
  unfold aRp at hF
  split at hF
  · rename_i hi
    cases hF
    obtain⟨ps,hps,h1⟩:=aC2 hS
    have h2:SH r (oF B m c2 ys::own kp64 64 A n c ps::sU (kI .u8) 5 (fun x:S64=>x.f1) ps::L) w:=h1.sh fun S hS=>(hS.tl fun S hS=>hS.swap).swap
    obtain⟨qs,hqs,h3⟩:=aC2 h2
    have h4:SH r (own kp64 64 A n c ps::own kp64 64 B m c2 qs::sU (kI .u8) 5 (fun x:S64=>x.f1) ps::sU (kI .u8) 5 (fun x:S64=>x.f1) qs::L) w:=h3.sh fun S hS =>
      (hS.tl fun S hS=>(hS.swap).tl fun S hS=>hS.swap).swap
    have hpl:ps.length=xs.length:=by rw [← hps,List.length_map]
    have hql:qs.length=ys.length:=by rw [← hqs,List.length_map]
    obtain⟨hr,hn,hnc,hcm⟩:=h4.rd 0 rfl
    have hpd:ps.take i.toNat++ps.drop i.toNat=ps:=List.take_append_drop _ _
    have hpt:(ps.take i.toNat).length=i.toNat:=by rw [List.length_take]; omega
    have hdl:(ps.drop i.toNat).length=xs.length - i.toNat:=by rw [List.length_drop]; omega
    have e:=aTk (ps.take i.toNat) (ps.drop i.toNat) qs c (by omega) (by omega) (by omega)
    rw [hpd,hpt,Int.toNat_of_nonneg hi.1] at e
    refine Calls.mono (pY e h4 :) ?_
    rintro ev w' ⟨v,hv,A',n',c',hv2,h5⟩
    refine⟨v,hv,A',n',c',hv2,aA4 (ps:=ps.take i.toNat++qs++ps.drop i.toNat) ?_ (h5.tl fun S hS=>?_)⟩
    · rw [List.map_append,List.map_append,List.map_take,List.map_drop,hps,hqs]
    · rw [← hpd] at hS
      have s1:=aD1 hS
      have s2:=s1.tl fun S hS=>hS.swap
      rw [List.append_assoc]
      exact yP (s2.tl fun S hS=>yP hS)
  · cases hF
theorem aW9 {r w:World} {L:List HP} {xs:List S64} {i:Int} {ps:List (S64×Hd)} {p:S64×Hd} {A:Option Addr} {n c:Nat} (hps:ps.map Prod.fst=xs) (hp:at_ ps i=some p) (hS:SH r (own kp64 64 A n c ps::sU (kI .u8) 5 (fun x:S64=>x.f1) (ps.eraseIdx i.toNat)::L) w) :
    Ret Tryz.prog 50 #[.slice A n c,.int .i64 i,.int .i64 (i+1)] w fun v w'=>∃ (A':Option Addr) (n' c':Nat),v=.slice A' n' c'∧SH r (oF A' n' c' (xs.eraseIdx i.toNat)::L) w':=by
  obtain⟨hi0,hil,hip⟩:=dQ hp
  obtain⟨hr,hn,hnc,hcm⟩:=hS.rd 0 rfl
  obtain⟨hlt,hpp⟩:=List.getElem?_eq_some_iff.1 hip
  have hpd:ps.take i.toNat++p::ps.drop (i.toNat+1)=ps:=by
    rw [← hpp, ← List.drop_eq_getElem_cons hlt,List.take_append_drop]
  have hpt:(ps.take i.toNat).length=i.toNat:=by rw [List.length_take]; omega
  have hdl:(ps.drop (i.toNat+1)).length=ps.length - (i.toNat+1):=List.length_drop
  have hcb:c≤9223372036854775807:=by unfold maxLen at hcm; omega
  have e:=aTz (ps.take i.toNat) (ps.drop (i.toNat+1)) p c (by omega) hcb
  rw [hpd,hpt,Int.toNat_of_nonneg hi0] at e
  refine Calls.mono (qA e hS :) ?_
  rintro ev w' ⟨v,hv,A',n',c',hv2,h5⟩
  refine⟨v,hv,A',n',c',hv2,?_⟩
  rw [← List.eraseIdx_eq_take_drop_succ] at h5
  refine aA4 (ps:=ps.eraseIdx i.toNat) ?_ h5
  rw [← hps,List.eraseIdx_eq_take_drop_succ,List.eraseIdx_eq_take_drop_succ,List.map_append,List.map_take,List.map_drop]
theorem bAc {r w:World} {L:List HP} (xs:List S64) (i j:Int) {A:Option Addr} {n c:Nat} {y:List S64} (hF:aTg xs i j=some y) (hS:SH r (oF A n c xs::L) w) :
    Ret Tryz.prog 50 #[.slice A n c,.int .i64 i,.int .i64 j] w fun v w'=>∃ (A':Option Addr) (n' c':Nat),v=.slice A' n' c'∧SH r (oF A' n' c' y::L) w':=by
  unfold aTg at hF
  split at hF
  · rename_i hi
    cases hF
    obtain⟨h0,h1,rfl⟩:=hi
    have hx:at_ xs i=some (xs[i.toNat]'(by omega)):=by unfold at_; rw [if_pos h0,List.getElem?_eq_getElem]
    obtain⟨ps,A',n',c',hps,hp,h2⟩:=aE7 hS hx
    have h3:SH r (own kp64 64 A n c ps::sU (kI .u8) 5 (fun x:S64=>x.f1) (ps.eraseIdx i.toNat)::L) w:=h2.sh fun S hS=>hS.tl fun S hS=>by
      obtain⟨S1,S2,q1,q2,qd,hA,hL⟩:=hS
      exact hL.mono q2
    exact aW9 hps hp h3
  · cases hF
noncomputable section
set_option linter.unusedSimpArgs false
def rC (a0:(List UInt8)):Option (Bool) :=
  if (!(a0==[]))=true then (some (decide ((a0.length:Int)≤32))) else (some false)
def uW (a0:(List UInt8)):Option (Bool) :=
  rC a0
def gU (a:Int) (b:Bool):Option ((Int)⊕((Unit)⊕(Bool))) :=
  if b=true then (some (.inr (.inr false))) else (ltt (IntKind.i64.wrap (a+1)) fun c=>(some (.inl (c))))
def fM (a0:(List UInt8)) (a:Int):Option ((Int)⊕((Unit)⊕(Bool))) :=
  if (decide (a<(a0.length:Int)))=true then ((at_ a0 a).bind fun b=>(if ((b.toNat:Int) != 46)=true then (if (decide ((b.toNat:Int)<48))=true then (if (decide ((b.toNat:Int)<97))=true then (gU a true) else (gU a (decide (122<(b.toNat:Int))))) else (if (decide (57<(b.toNat:Int)))=true then (if (decide ((b.toNat:Int)<97))=true then (gU a true) else (gU a (decide (122<(b.toNat:Int))))) else (gU a false))) else (gU a false))) else (some (.inr (.inl ())))
def tU (a0:(List UInt8)):Option (Bool) :=
  (loop (fun s=>fM a0 s) (0)).bind fun t=>match t with | (.inl t)=>uW a0 | (.inr t)=>some t
def iV (a0:S64) (a1:(List UInt8)):Option (Int) :=
  if (Op.bytesLess a0.f0 a1)=true then (some (-1)) else (if (!(Op.bytesLess a0.f0 a1||a0.f0==a1))=true then (some 1) else (some 0))
def bN (a0:(List S64)) (a1:(List UInt8)) (a:Int):Option (Int×Bool) :=
  if (decide (a<(a0.length:Int)))=true then ((at_ a0 a).bind fun b=>((iV b a1).bind fun c=>(some (a,c==0)))) else (some (a,false))
def bK (a0:(List S64)) (a1:(List UInt8)) (a:Int):Option (Int×Bool) :=
  bN a0 a1 a
def aV (a:Int) (b:Int):Option ((Int×Int)⊕((Int))) :=
  some (.inl (a,b))
def aF (a0:(List S64)) (a1:(List UInt8)) (a:Int) (b:Int):Option ((Int×Int)⊕((Int))) :=
  if (decide (a<b))=true then (ltt (IntKind.i64.wrap (a+b)) fun d=>(ltt (IntKind.u64.wrap d) fun e=>(ltt (bS .u64 e 1) fun f=>(ltt (IntKind.i64.wrap f) fun c=>((at_ a0 c).bind fun g=>((iV g a1).bind fun h=>(if (decide (h<0))=true then (ltt (IntKind.i64.wrap (c+1)) fun i=>(aV i b)) else (aV a c)))))))) else (some (.inr (a)))
def bB (a0:(List S64)) (a1:(List UInt8)):Option (Int×Bool) :=
  (loop (fun s=>aF a0 a1 s.1 s.2) (0,(a0.length:Int))).bind fun t=>bK a0 a1 t
def gN (a0:S58) (a1:(List UInt8)):Option (Int×Bool) :=
  (bB a0.f0 a1).bind fun a=>(some (a.1,a.2))
def eZ (a0:(Option S58)) (a1:(List UInt8)):Option (Int) :=
  match a0 with | none=>(some 5) | some a=>((tU a1).bind fun b=>(if (!b)=true then (some 1) else (if a.f3=true then (some 9) else (some 0))))
def lV (a0:S58) (b:Int) (c:Int) (a:Bool):Option (Bool×S58) :=
  some (!a,(⟨a0.f0,a0.f1,c,a,b⟩:S58))
def jK (a0:S58):Option (Bool×S58) :=
  ltt (IntKind.i64.wrap (a0.f4+1)) fun a=>(if (decide (0<a0.f2))=true then (ltt (IntKind.i64.wrap (a0.f2 - 1)) fun b=>(lV a0 a b (b==0))) else (lV a0 a a0.f2 a0.f3))
def qN (a:Int):Option (Int) :=
  some a
def oL (a:Int):Option (Int) :=
  qN a
def dJ (b:S58) (c:Int) (a:Int):Option ((Int×Int)⊕((Int))) :=
  if (decide (a<(b.f0.length:Int)))=true then ((at_ b.f0 a).bind fun d=>(ltt (IntKind.i64.wrap (c+(d.f1.length:Int))) fun e=>(ltt (IntKind.i64.wrap (a+1)) fun f=>(some (.inl (e,f)))))) else (some (.inr (c)))
def kH (a0:(Option S58)):Option (Int) :=
  match a0 with | none=>(some 0) | some a=>((loop (fun s=>dJ a s.1 s.2) (0,0)).bind fun t=>oL t)
def qP (a:(List (List UInt8))):Option ((List (List UInt8))) :=
  some a
def oN (a:(List (List UInt8))):Option ((List (List UInt8))) :=
  qP a
def dI (c:S58) (a:(List (List UInt8))) (b:Int):Option (((List (List UInt8))×Int)⊕(((List (List UInt8))))) :=
  if (decide (b<(c.f0.length:Int)))=true then ((at_ c.f0 b).bind fun d=>(chk (a.length+[d.f0].length≤140737488355328 / 16) (ltt (IntKind.i64.wrap (b+1)) fun e=>(some (.inl (a++[d.f0],e)))))) else (some (.inr (a)))
def kP (a0:(Option S58)):Option ((List (List UInt8))) :=
  match a0 with | none=>(some []) | some a=>((loop (fun s=>dI a s.1 s.2) ([],0)).bind fun t=>oN t)
def tC (a0:Int) (a:Bool):Option ((Option S58)×Int) :=
  if a=true then (some (none,1)) else (some (some (⟨[],a0,0,false,0⟩:S58),0))
def wC (a0:Int):Option ((Option S58)×Int) :=
  if (decide (a0<1))=true then (tC a0 true) else (tC a0 (decide (16777216<a0)))
def fW (a2:(List Int)) (c:(Int×Bool)) (a:(Bool×S58)) (d:(List S64)):Option (Int×(Option S58)) :=
  (at_ d c.1).bind fun b=>(chk (b.f1.length+a2.length≤140737488355328 / 1) (if (!a.1)=true then (some (9,some (⟨d.set c.1.toNat (⟨b.f0,b.f1++a2,b.f2⟩:S64),a.2.f1,a.2.f2,a.2.f3,a.2.f4⟩:S58))) else (some (0,some (⟨d.set c.1.toNat (⟨b.f0,b.f1++a2,b.f2⟩:S64),a.2.f1,a.2.f2,a.2.f3,a.2.f4⟩:S58)))))
def eA (a1:(List UInt8)) (a2:(List Int)) (c:S58) (a:(Int×Bool)) (d:Bool):Option (Int×(Option S58)) :=
  if d=true then (some (10,some c)) else ((jK c).bind fun b=>(if (!a.2)=true then ((aRp b.2.f0 a.1 [(⟨a1,[],0⟩:S64)]).bind fun e=>(fW a2 a b e)) else (fW a2 a b b.2.f0)))
def nR (a0:(Option S58)) (a1:(List UInt8)) (a2:(List Int)):Option (Int×(Option S58)) :=
  match a0 with | none=>((eZ none a1).bind fun c=>(if (c != 0)=true then (some (c,none)) else (none))) | some a=>((eZ (some a) a1).bind fun d=>(if (d != 0)=true then (some (d,some a)) else ((gN a a1).bind fun b=>((kH (some a)).bind fun e=>(ltt (IntKind.i64.wrap (a.f1 - e)) fun f=>(if (decide (f<(a2.length:Int)))=true then (eA a1 a2 a b true) else (if (!b.2)=true then (eA a1 a2 a b (decide (500≤(a.f0.length:Int)))) else (eA a1 a2 a b false))))))))
def qG (a0:(Option S58)) (a1:(List UInt8)):Option ((List Int)×Int) :=
  match a0 with | none=>((eZ none a1).bind fun b=>(if (b != 0)=true then (some ([],b)) else (none))) | some a=>((eZ (some a) a1).bind fun c=>(if (c != 0)=true then (some ([],c)) else ((gN a a1).bind fun d=>(if (!d.2)=true then (some ([],5)) else ((at_ a.f0 d.1).bind fun e=>((dP e.f1).bind fun f=>(some (f,0))))))))
end
end Go.Proofs.YtnefioccdkmegaaGreatDoor.M
