/- Texts of the claim, joined: what it uses of Mmg, Vx, Dhp, Mhp, Vi, Dito, Mito, Dfa, Mfa, Ha, Dfb. -/
import Derived.Test.YtnefioccdkmegaaGreatDoorZg
import Derived.Test.YtnefioccdkmegaaGreatDoorProg
import Derived.IntWalk
import Derived.Shelf.Strconv.Itoa3
namespace Go.Proofs.YtnefioccdkmegaaGreatDoor.M
open Go Go.RowKit Go.Proofs.YtnefioccdkmegaaGreatDoor.E
set_option linter.unusedVariables false
set_option maxRecDepth 100000
set_option maxHeartbeats 4000000
set_option linter.unusedSimpArgs false
section
variable {r:World} {L:List HP} {w:World} {Z:Nat→Prop} {wz:World}
theorem wI {a0 a1 a2 g0 y} (G:kH a0 a1 a2=some y) (X:SH r (obj151 Z wz g0 a0::L) w) (qz:Nat) (hZ:L[qz]?=some (zone Z wz)) :
  Ret Tryz.prog 95 #[.pointer (some ⟨g0,0,none⟩),.int .i64 a1,.int .i64 a2] w fun v w'=>v=.bool y.1∧SH r (obj151 Z wz g0 y.2::L) w':=by
 refine enter Tryz.func95 rfl Tryz.ntmps95 [(0,_),(1,_),(2,_)] rfl (by simp) ?_
 intro U J Qf hQ hQn
 unfold kH at G
 obtain⟨H,a3,a4,c0,c3,c4,X⟩:=xC X
 refine nz 1 J rfl fun U J=>wp_seq_k fun e9 c8=>cN [0,1,3,7,0,31,63,0,128,384,896,0,3968,8064,127,32767] [] rfl J X (by kernel_rfl) (by kernel_rfl) (by kernel_rfl) (by kernel_rfl) fun w X=>?_
 obtain⟨c9,c5,G⟩:=bnd G
 obtain⟨cs,hV,d0⟩:=el (X.rd 1 rfl) c5
 obtain⟨S,a7,a8,rfl,a5⟩:=hV
 obtain⟨c6,c7,G⟩:=bnd G
 obtain⟨cs,hV,d1⟩:=el (X.rd 1 rfl) c7
 obtain⟨Y,a9,b3,rfl,a6⟩:=hV
 refine⟨[(0,(pP g0)),(1,(pP g0)),(2,(pP g0)),(3,.slice H a3 a4),(4,.int .i64 a1),(5,.pointer (some (ea H (a1.toNat * 1)))),(6,.slice S a7 a8),(7,(pP g0)),(8,(pP g0)),(9,(pP g0)),(10,.slice H a3 a4),(11,.int .i64 a2),(12,.pointer (some (ea H (a2.toNat * 1)))),(13,.slice Y a9 b3),(14,.slice S a7 a8),(15,.slice Y a9 b3)],?_⟩
 refine gM [0,1,2,3,4,5,6,7,8,9,10,11,12,13,14,15] (by kernel_rfl) ⟨pm rfl,pt [(9,(pP g0))] rfl (fun U J=>dC rfl (J.ev rfl)),pt [(10,(pP g0))] rfl (fun U J=>eR vE J rfl rfl),pt [(11,(pP g0))] rfl (fun U J=>cM qJ (X.cell 0 rfl 0 _ rfl) J rfl rfl rfl),pm rfl,pt [(12,.slice H a3 a4),(13,.int .i64 a1)] rfl (fun U J=>fH qJ aC3 (X.rd 1 rfl) c5 J rfl rfl rfl),pt [(14,.pointer (some (ea H (a1.toNat * 1))))] rfl (fun U J=>cM eT (d0 0 _ rfl) J rfl rfl rfl),pm rfl,pt [(16,(pP g0))] rfl (fun U J=>dC rfl (J.ev rfl)),pt [(17,(pP g0))] rfl (fun U J=>eR vE J rfl rfl),pt [(18,(pP g0))] rfl (fun U J=>cM qJ (X.cell 0 rfl 0 _ rfl) J rfl rfl rfl),pm rfl,pt [(19,.slice H a3 a4),(20,.int .i64 a2)] rfl (fun U J=>fH qJ aC3 (X.rd 1 rfl) c7 J rfl rfl rfl),pt [(21,.pointer (some (ea H (a2.toNat * 1))))] rfl (fun U J=>cM eT (d1 0 _ rfl) J rfl rfl rfl),pm rfl,pm rfl,trivial⟩ ⟨by kernel_rfl,by kernel_rfl⟩ [(0,_),(1,_),(2,_),(7,_),(8,_)] rfl (fun U J=>?_)
 refine c8 _ _ (wp_seq_k fun f5 d2=>?_)
 refine aA fun f6 d3=>wp_seq_k fun d4 d5=>?_
 have hj1:∀b8,jT a0 a1 a2 c9 c6 b8=some y→∀U w,FR 64 [] U [(0,(pP g0)),(1,.int .i64 a1),(2,.int .i64 a2),(7,.slice S a7 a8),(8,.slice Y a9 b3),(23,.bool b8)]→SH r (blk g0 151 [.slice H a3 a4,.slice c0 c3 c4]::own (kM Z wz k47) 22 H a3 a4 a0.f0::own (kI .i64) 3 c0 c3 c4 a0.f1::L) w→d4 U w:=by
  intro b8 G U w J X
  unfold jT at G
  refine d5 _ _ (bB J G rfl (fun d6 G=>?_) fun d6 G=>?_)
  ·refine ws fun f7 b9=>xk 1 J rfl fun U J=>aX eT (X.rdl 3 (a5.rdl qz hZ) rfl).2.1 J (fun U J=>?_) rfl
   refine xk 2 J rfl fun U J=>bcG G (fun I G=>?_) fun I G=>?_
   ·refine ng 10 I J rfl rfl fun U J=>?_
    replace X:=mW (x:=a0) (X.pk 2 |>.pk 2 |>.pk 2)
    cases G
    refine b9 _ _ (wp_ret ?_)
    refine hQ _ _ (lv Tryz.results95 J rfl ?_)
    exact⟨rfl,X⟩
   refine xg 1 I J rfl rfl fun U J=>aO I J ?_ rfl
   refine aX eT (X.rdl 3 (a6.rdl qz hZ) rfl).2.1 J (fun U J=>?_) rfl
   refine xg 2 I J rfl rfl fun U J=>bcG G (fun b4 G=>?_) fun b4 G=>?_
   ·refine xg 3 b4 J rfl rfl fun U J=>aO I J ?_ rfl
    refine xg 1 b4 J rfl rfl fun U J=>ng 2 I J rfl rfl fun U J=>?_
    replace X:=mW (x:=a0) (X.pk 2 |>.pk 2 |>.pk 2)
    cases G
    refine b9 _ _ (wp_ret ?_)
    refine hQ _ _ (lv Tryz.results95 J rfl ?_)
    exact⟨rfl,X⟩
   refine xg 3 b4 J rfl rfl fun U J=>aO I J ?_ rfl
   refine xg 1 b4 J rfl rfl fun U J=>ng 2 I J rfl rfl fun U J=>?_
   replace X:=mW (x:=a0) (X.pk 2 |>.pk 2 |>.pk 2)
   cases G
   refine b9 _ _ (wp_ret ?_)
   refine hQ _ _ (lv Tryz.results95 J rfl ?_)
   exact⟨rfl,X⟩
  refine wp_seq_k fun f8 d7=>cN [0,1,3,0,8,24,63,127] [6] rfl J X (by kernel_rfl) (by kernel_rfl) (by kernel_rfl) (by kernel_rfl) fun w X=>?_
  obtain⟨z,b6,G⟩:=bnd G
  obtain⟨cs,hV,d8⟩:=el (X.rdl 3 (a5.rdl qz hZ) rfl) b6
  obtain rfl:=hV
  obtain⟨C,b7,G⟩:=bnd G
  obtain⟨cs,hV,d9⟩:=el (X.rdl 3 (a6.rdl qz hZ) rfl) b7
  obtain rfl:=hV
  refine⟨[(0,.slice S a7 a8),(1,.pointer (some (ea S ((0:Int).toNat * 5)))),(2,.agg #[.int .u64 z.f0,.int .i64 z.f1,.int .i64 z.f2,str z.f3,.float .f64 z.f4]),(3,.slice Y a9 b3),(4,.pointer (some (ea Y ((0:Int).toNat * 5)))),(5,.agg #[.int .u64 C.f0,.int .i64 C.f1,.int .i64 C.f2,str C.f3,.float .f64 C.f4])],?_⟩
  refine dF [0,1,2,3,4,5] [6] (by kernel_rfl) ⟨pm rfl,pt [(46,_)] rfl (fun U J=>fH eT cI (X.rdl 3 (a5.rdl qz hZ) rfl) b6 J rfl rfl rfl),pt [(47,_)] rfl (fun U J=>nJ (cs:=[.int .u64 z.f0,.int .i64 z.f1,.int .i64 z.f2,str z.f3,.float .f64 z.f4]) mG cI (fun j u h=>by rw [fG]; exact d8 _ _ h) J rfl rfl rfl),pm rfl,pt [(49,_)] rfl (fun U J=>fH eT cI (X.rdl 3 (a6.rdl qz hZ) rfl) b7 J rfl rfl rfl),pt [(50,_)] rfl (fun U J=>nJ (cs:=[.int .u64 C.f0,.int .i64 C.f1,.int .i64 C.f2,str C.f3,.float .f64 C.f4]) mG cI (fun j u h=>by rw [fG]; exact d9 _ _ h) J rfl rfl rfl),trivial⟩ ⟨et [(48,_),(51,_)] rfl (fun U J K hK=>?_),trivial⟩
  obtain⟨e0,e1,G⟩:=bnd G
  refine nQ aQu J (sO e1 X :) (fun v w hR=>?_) rfl
  obtain⟨rfl,X⟩:=hR
  refine hK _ [(7,.bool e0)] _ rfl (gM [7] (by kernel_rfl) ⟨pm rfl,trivial⟩ ⟨by kernel_rfl,by kernel_rfl⟩ [(0,_),(1,_),(2,_),(7,_),(8,_),(45,_)] rfl (fun U J=>?_))
  refine d7 _ _ (bB J G rfl (fun e2 G=>?_) fun e2 G=>?_)
  ·refine nz 1 J rfl fun U J=>?_
   replace X:=mW (x:=a0) (X.pk 2 |>.pk 2 |>.pk 2)
   cases G
   refine wp_ret (hQ _ _ ?_)
   exact lv Tryz.results95 J rfl ⟨rfl,X⟩
  refine wp_seq_k fun f9 e3=>cN [0,1,3,0,8,24,63,127] [6] rfl J X (by kernel_rfl) (by kernel_rfl) (by kernel_rfl) (by kernel_rfl) fun w X=>?_
  obtain⟨cs,hV,e4⟩:=el (X.rdl 3 (a6.rdl qz hZ) rfl) b7
  obtain rfl:=hV
  obtain⟨cs,hV,e5⟩:=el (X.rdl 3 (a5.rdl qz hZ) rfl) b6
  obtain rfl:=hV
  refine⟨[(0,.slice Y a9 b3),(1,.pointer (some (ea Y ((0:Int).toNat * 5)))),(2,.agg #[.int .u64 C.f0,.int .i64 C.f1,.int .i64 C.f2,str C.f3,.float .f64 C.f4]),(3,.slice S a7 a8),(4,.pointer (some (ea S ((0:Int).toNat * 5)))),(5,.agg #[.int .u64 z.f0,.int .i64 z.f1,.int .i64 z.f2,str z.f3,.float .f64 z.f4])],?_⟩
  refine dF [0,1,2,3,4,5] [6] (by kernel_rfl) ⟨pm rfl,pt [(54,_)] rfl (fun U J=>fH eT cI (X.rdl 3 (a6.rdl qz hZ) rfl) b7 J rfl rfl rfl),pt [(55,_)] rfl (fun U J=>nJ (cs:=[.int .u64 C.f0,.int .i64 C.f1,.int .i64 C.f2,str C.f3,.float .f64 C.f4]) mG cI (fun j u h=>by rw [fG]; exact e4 _ _ h) J rfl rfl rfl),pm rfl,pt [(57,_)] rfl (fun U J=>fH eT cI (X.rdl 3 (a5.rdl qz hZ) rfl) b6 J rfl rfl rfl),pt [(58,_)] rfl (fun U J=>nJ (cs:=[.int .u64 z.f0,.int .i64 z.f1,.int .i64 z.f2,str z.f3,.float .f64 z.f4]) mG cI (fun j u h=>by rw [fG]; exact e5 _ _ h) J rfl rfl rfl),trivial⟩ ⟨et [(56,_),(59,_)] rfl (fun U J K hK=>?_),trivial⟩
  obtain⟨e6,e7,G⟩:=bnd G
  refine nQ aQu J (sO e7 X :) (fun v w hR=>?_) rfl
  obtain⟨rfl,X⟩:=hR
  refine hK _ [(7,.bool e6)] _ rfl (gM [7] (by kernel_rfl) ⟨pm rfl,trivial⟩ ⟨by kernel_rfl,by kernel_rfl⟩ [(0,_),(1,_),(2,_),(53,_)] rfl (fun U J=>?_))
  refine e3 _ _ (bB J G rfl (fun e8 G=>?_) fun e8 G=>?_)
  ·refine nz 1 J rfl fun U J=>?_
   replace X:=mW (x:=a0) (X.pk 2 |>.pk 2 |>.pk 2)
   cases G
   refine wp_ret (hQ _ _ ?_)
   exact lv Tryz.results95 J rfl ⟨rfl,X⟩
  refine wp_skip (d3 _ _ ?_)
  refine d2 _ _ (nz 4 J rfl fun U J=>?_)
  replace X:=mW (x:=a0) (X.pk 2 |>.pk 2 |>.pk 2)
  cases G
  refine wp_ret (hQ _ _ ?_)
  exact lv Tryz.results95 J rfl ⟨rfl,X⟩
 refine aC (x_m J rfl fun U J=>?_)
 refine aX eT (X.rdl 3 (a5.rdl qz hZ) rfl).2.1 J (fun U J=>?_) rfl
 refine xk 2 J rfl fun U J=>bcG G (fun b5 G=>?_) fun b5 G=>?_
 ·exact ng 5 b5 J rfl rfl fun U J=>hj1 true G U w (J.sub _ rfl) X
 refine xg 1 b5 J rfl rfl fun U J=>aO b5 J ?_ rfl
 refine aX eT (X.rdl 3 (a6.rdl qz hZ) rfl).2.1 J (fun U J=>?_) rfl
 exact ng 3 b5 J rfl rfl fun U J=>hj1 ((c6.length:Int)==0) G U w (J.sub _ rfl) X
theorem aK9 {a0 A0 n0 c0 y} (G:uA a0=some y) (X:SH r (L) w) (qz:Nat) (hZ:L[qz]?=some (zone Z wz)) (ha0:RdL L (kM Z wz k47) A0 n0 c0 a0) :
  Ret Tryz.prog 72 #[.slice A0 n0 c0] w fun v w'=>∃ (p0:Option Addr),v=.tuple #[(.pointer p0),(.int .i64 y.2)]∧SH r (sB (obj151 Z wz) p0 y.1::L) w':=by
 refine enter Tryz.func72 rfl Tryz.ntmps72 [(0,_)] rfl (by simp) ?_
 intro U J Qf hQ hQn
 unfold uA at G
 refine nz 2 J rfl fun U J=>wp_seq_k fun t0 k2=>wp_seq_k fun k3 k4=>?_
 have hj1:∀g7,sE a0 g7=some y→∀U w,FR 125 [] U [(0,.slice A0 n0 c0),(21,.bool g7)]→SH r (L) w→k3 U w:=by
  intro g7 G U w J X
  unfold sE at G
  refine k4 _ _ (bB J G rfl (fun k5 G=>?_) fun k5 G=>?_)
  ·refine nz 2 J rfl fun U J=>?_
   replace X:=SH.optN (obj151 Z wz) X
   cases G
   refine wp_ret (hQ _ _ ?_)
   exact lv2 Tryz.results72 J rfl rfl ⟨none,rfl,X⟩
  refine wp_skip (k2 _ _ ?_)
  refine ws fun t1 k6=>x_v (v:=.agg #[.slice none 0 0,.slice none 0 0]) J (nU (ps:=#[]) rfl (qP J rfl) (fun w=>by kernel_rfl)) rfl fun U J=>nY J X (fun z U w X J=>?_) rfl
  refine x_m J rfl fun U J=>wn (k6 _ _ ?_)
  refine wp_seq_k fun t3 k7=>ws fun t4 k8=>xk 1 J rfl fun U J=>aX qJ (X.rdl 1 ha0 rfl).2.1 J (fun U J=>?_) rfl
  refine x_m J rfl fun U J=>wn (k8 _ _ ?_)
  refine aA fun h8 k9=>?_
  have hb1:∀a7,vP a0 a7=some y→∀I S Y U w,FR 125 [] U [(0,.slice A0 n0 c0),(4,(pP z))]→SH r (blk z 151 [.slice I S Y,.slice none 0 0]::own (kM Z wz k47) 22 I S Y a7::L) w→h8 U w:=by
   intro a7 G I S Y U w J X
   unfold vP at G
   refine k9 _ _ (k7 _ _ ?_)
   refine ws fun t5 l0=>xk 1 J rfl fun U J=>aX qJ (X.rdl 2 ha0 rfl).2.1 J (fun U J=>?_) rfl
   refine x_m J rfl fun U J=>wn (l0 _ _ ?_)
   refine ws fun t6 l1=>xk 2 J rfl fun U J=>?_
   obtain⟨l2,G⟩:=aB G
   refine aEz (d:=(kI .i64)) (bytes:=8) 0 aZs rfl wM l2 J X (fun b3 U w X J=>?_) rfl
   refine xk 1 J rfl fun U J=>aL vM J (fun U J=>?_) rfl
   refine dH 1 bB0 J X rfl (fun  U w X J=>?_) rfl
   refine wn (l1 _ _ ?_)
   refine ws fun t7 l3=>xk 2 J rfl fun U J=>?_
   obtain⟨l4,G⟩:=aB G
   refine aEz (d:=(kI .i64)) (bytes:=8) 0 aZs rfl wM l4 J X (fun C U w X J=>?_) rfl
   refine x_m J rfl fun U J=>wn (l3 _ _ ?_)
   refine wp_seq_k fun t8 l5=>nz 2 J rfl fun U J=>aA fun h9 l6=>?_
   have hb2:∀g8,vY a0 a7 g8=some y→∀U w,FR 125 [] U [(4,(pP z)),(8,.int .i64 (a0.length:Int)),(9,.slice (some ⟨C,0,none⟩) ((IntKind.i64.wrap (2 * (a0.length:Int))).toNat) ((IntKind.i64.wrap (2 * (a0.length:Int))).toNat))]→SH r (blk z 151 [.slice I S Y,.slice (some ⟨b3,0,none⟩) ((a0.length:Int).toNat) ((a0.length:Int).toNat)]::own (kM Z wz k47) 22 I S Y a7::own (kI .i64) 3 (some ⟨b3,0,none⟩) ((a0.length:Int).toNat) ((a0.length:Int).toNat) (List.replicate (a0.length:Int).toNat (0:Int))::own (kI .i64) 3 (some ⟨C,0,none⟩) ((IntKind.i64.wrap (2 * (a0.length:Int))).toNat) ((IntKind.i64.wrap (2 * (a0.length:Int))).toNat) g8::L) w→h9 U w:=by
    intro g8 G U w J X
    unfold vY at G
    refine l6 _ _ (l5 _ _ ?_)
    refine wp_seq_k fun t9 l7=>nz 3 J rfl fun U J=>aA fun i0 l8=>?_
    have hb3:∀d0 d1 g9,vZ a0 d0 d1 g9=some y→∀h0 h1 h2 b8 d2 d3 U w,FR 125 [] U [(4,(pP z)),(8,.int .i64 (a0.length:Int)),(9,.slice (some ⟨C,0,none⟩) ((IntKind.i64.wrap (2 * (a0.length:Int))).toNat) ((IntKind.i64.wrap (2 * (a0.length:Int))).toNat))]→SH r (blk z 151 [.slice h0 h1 h2,.slice b8 d2 d3]::own (kM Z wz k47) 22 h0 h1 h2 d0::own (kI .i64) 3 b8 d2 d3 d1::own (kI .i64) 3 (some ⟨C,0,none⟩) ((IntKind.i64.wrap (2 * (a0.length:Int))).toNat) ((IntKind.i64.wrap (2 * (a0.length:Int))).toNat) g9::L) w→i0 U w:=by
     intro d0 d1 g9 G h0 h1 h2 b8 d2 d3 U w J X
     unfold vZ at G
     refine l8 _ _ (l7 _ _ ?_)
     refine wp_seq_k fun u0 l9=>cN [0,1,3,7,0,0,32,96,224,496,1008,2047,4095] [12] rfl J X (by kernel_rfl) (by kernel_rfl) (by kernel_rfl) (by kernel_rfl) fun w X=>?_
     obtain⟨d4,i1,G⟩:=bnd G
     obtain⟨cs,hV,m0⟩:=el (X.rd 3 rfl) i1
     obtain rfl:=hV
     obtain⟨u1,i2,G⟩:=bnd G
     refine⟨[(0,(pP z)),(1,(pP z)),(2,.pointer (some ⟨z,1,none⟩)),(3,.slice b8 d2 d3),(4,.slice (some ⟨C,0,none⟩) ((IntKind.i64.wrap (2 * (a0.length:Int))).toNat) ((IntKind.i64.wrap (2 * (a0.length:Int))).toNat)),(5,.int .i64 (a0.length:Int)),(6,.int .i64 (IntKind.i64.wrap (2 * (a0.length:Int)))),(7,.int .i64 (IntKind.i64.wrap ((IntKind.i64.wrap (2 * (a0.length:Int))) - 1))),(8,.int .i64 (if IntKind.i64.wrap ((IntKind.i64.wrap (2 * (a0.length:Int))) - 1)<1 then IntKind.i64.wrap ((IntKind.i64.wrap (2 * (a0.length:Int))) - 1) else 1)),(9,.pointer (some (ea (some ⟨C,0,none⟩) ((if IntKind.i64.wrap ((IntKind.i64.wrap (2 * (a0.length:Int))) - 1)<1 then IntKind.i64.wrap ((IntKind.i64.wrap (2 * (a0.length:Int))) - 1) else 1).toNat * 1)))),(10,.int .i64 d4),(11,.pointer (some (ea b8 ((0:Int).toNat * 1))))],?_⟩
     refine dF [0,1,2,3,4,5,6,7,8,9,10,11] [12] (by kernel_rfl) ⟨pm rfl,pt [(112,_)] rfl (fun U J=>dC rfl (J.ev rfl)),pt [(113,_)] rfl (fun U J=>eR vM J rfl rfl),pt [(114,_)] rfl (fun U J=>cM wM (X.cell 0 rfl 1 _ rfl) J rfl rfl rfl),pm rfl,pm rfl,pt [(117,_)] rfl (fun U J=>aNy rfl (J.ev rfl) (J.ev rfl)),pt [(118,_)] rfl (fun U J=>oY rfl (J.ev rfl) (J.ev rfl)),pt [(119,_)] rfl (fun U J=>aIf rfl (J.ev rfl) (J.ev rfl)),pt [(116,_),(120,_)] rfl (fun U J=>fH wM sz3 (X.rd 3 rfl) i1 J rfl rfl rfl),pt [(121,_)] rfl (fun U J=>cM uu3 (m0 0 _ rfl) J rfl rfl rfl),pt [(115,_)] rfl (fun U J=>fH wM sz3 (X.rd 2 rfl) i2 J rfl rfl rfl),trivial⟩ ⟨et [(122,_),(123,_)] rfl (fun U J K hK=>?_),trivial⟩
     refine xE (z':=d4) (off:=0) (vs:=[.int .i64 d4]) 2 sz3 J X rfl (dQ i2).2.2 (fun c h=>by cases h; rfl) (fun  w X=>?_) rfl rfl rfl rfl rfl rfl
     refine hK _ [] _ rfl (gM [] (by kernel_rfl) trivial ⟨by kernel_rfl,by kernel_rfl⟩ [(4,_)] rfl (fun U J=>?_))
     refine l9 _ _ (nz 3 J rfl fun U J=>?_)
     replace X:=X.pk 2 |>.pk 2
     replace X:=(SH.optS (mW (x:=(⟨d0,d1.set (0:Int).toNat d4⟩:S151)) X)).drop 1
     cases G
     refine wp_ret (hQ _ _ ?_)
     exact lv2 Tryz.results72 J rfl rfl ⟨some ⟨z,0,none⟩,rfl,X⟩
    obtain⟨m1,m2,G⟩:=bnd G
    have m3:∀b9 c3 c4,(b9,c3,c4)=m1→∀d5 d6 d7 d8 d9 e0 U w,FR 125 [] U [(4,(pP z)),(8,.int .i64 (a0.length:Int)),(9,.slice (some ⟨C,0,none⟩) ((IntKind.i64.wrap (2 * (a0.length:Int))).toNat) ((IntKind.i64.wrap (2 * (a0.length:Int))).toNat))]→SH r (blk z 151 [.slice d5 d6 d7,.slice d8 d9 e0]::own (kM Z wz k47) 22 d5 d6 d7 b9::own (kI .i64) 3 d8 d9 e0 c3::own (kI .i64) 3 (some ⟨C,0,none⟩) ((IntKind.i64.wrap (2 * (a0.length:Int))).toNat) ((IntKind.i64.wrap (2 * (a0.length:Int))).toNat) c4::L) w→i0 U w:=by
     intro b9 c3 c4 ht d5 d6 d7 d8 d9 e0 U w J X
     subst ht
     replace G:tC a0 b9 c3 c4=some y:=G
     unfold tC at G
     exact hb3 b9 c3 c4 G d5 d6 d7 d8 d9 e0 U w (J.sub _ rfl) X
    refine aD m2 (fun s U w=>∃e1 e2 e3 e4 e5 e6,FR 125 [] U [(4,(pP z)),(8,.int .i64 (a0.length:Int)),(9,.slice (some ⟨C,0,none⟩) ((IntKind.i64.wrap (2 * (a0.length:Int))).toNat) ((IntKind.i64.wrap (2 * (a0.length:Int))).toNat)),(11,.int .i64 s.2.2.2)]∧SH r (blk z 151 [.slice e1 e2 e3,.slice e4 e5 e6]::own (kM Z wz k47) 22 e1 e2 e3 s.1::own (kI .i64) 3 e4 e5 e6 s.2.1::own (kI .i64) 3 (some ⟨C,0,none⟩) ((IntKind.i64.wrap (2 * (a0.length:Int))).toNat) ((IntKind.i64.wrap (2 * (a0.length:Int))).toNat) s.2.2.1::L) w) ⟨I,S,Y,(some ⟨b3,0,none⟩),(a0.length:Int).toNat,(a0.length:Int).toNat,J.sub _ rfl,X⟩ ?_
    intro u2 m4 i3 G m5 m6 U w hLab
    obtain⟨h3,h4,e7,H⟩:=m4
    replace G:mB h3 h4 e7 H=some i3:=G
    unfold mB at G
    try dsimp only at hLab
    obtain⟨e1,e2,e3,e4,e5,e6,J,X⟩:=hLab
    refine wp_seq_k fun u3 m7=>nz 2 J rfl fun U J=>bB J G rfl (fun m8 G=>?_) fun m8 G=>?_
    ·refine wp_skip (m7 _ _ ?_)
     refine wp_seq_k fun u4 m9=>aA fun u5 n3=>wp_seq_k fun u6 n4=>cN [0,0,2,7,15,0,0,64,192,480,992,31,4095] [] rfl J X (by kernel_rfl) (by kernel_rfl) (by kernel_rfl) (by kernel_rfl) fun w X=>?_
     obtain⟨e8,i4,G⟩:=bnd G
     obtain⟨cs,hV,n5⟩:=el (X.rd 3 rfl) i4
     obtain rfl:=hV
     obtain⟨e9,i5,G⟩:=bnd G
     obtain⟨cs,hV,n6⟩:=el (X.rd 3 rfl) i5
     obtain rfl:=hV
     refine⟨[(0,.slice (some ⟨C,0,none⟩) ((IntKind.i64.wrap (2 * (a0.length:Int))).toNat) ((IntKind.i64.wrap (2 * (a0.length:Int))).toNat)),(1,.int .i64 H),(2,.int .i64 (IntKind.i64.wrap (2 * H))),(3,.pointer (some (ea (some ⟨C,0,none⟩) ((IntKind.i64.wrap (2 * H)).toNat * 1)))),(4,.int .i64 e8),(5,.slice (some ⟨C,0,none⟩) ((IntKind.i64.wrap (2 * (a0.length:Int))).toNat) ((IntKind.i64.wrap (2 * (a0.length:Int))).toNat)),(6,.int .i64 H),(7,.int .i64 (IntKind.i64.wrap (2 * H))),(8,.int .i64 (IntKind.i64.wrap ((IntKind.i64.wrap (2 * H))+1))),(9,.pointer (some (ea (some ⟨C,0,none⟩) ((IntKind.i64.wrap ((IntKind.i64.wrap (2 * H))+1)).toNat * 1)))),(10,.int .i64 e9),(11,.int .i64 e8),(12,.int .i64 e9)],?_⟩
     refine gM [0,1,2,3,4,5,6,7,8,9,10,11,12] (by kernel_rfl) ⟨pm rfl,pm rfl,pt [(85,.int .i64 H)] rfl (fun U J=>aNy rfl (J.ev rfl) (J.ev rfl)),pt [(84,.slice (some ⟨C,0,none⟩) ((IntKind.i64.wrap (2 * (a0.length:Int))).toNat) ((IntKind.i64.wrap (2 * (a0.length:Int))).toNat)),(86,.int .i64 (IntKind.i64.wrap (2 * H)))] rfl (fun U J=>fH wM sz3 (X.rd 3 rfl) i4 J rfl rfl rfl),pt [(87,.pointer (some (ea (some ⟨C,0,none⟩) ((IntKind.i64.wrap (2 * H)).toNat * 1))))] rfl (fun U J=>cM uu3 (n5 0 _ rfl) J rfl rfl rfl),pm rfl,pm rfl,pt [(90,.int .i64 H)] rfl (fun U J=>aNy rfl (J.ev rfl) (J.ev rfl)),pt [(91,.int .i64 (IntKind.i64.wrap (2 * H)))] rfl (fun U J=>iR rfl (J.ev rfl) (J.ev rfl)),pt [(89,.slice (some ⟨C,0,none⟩) ((IntKind.i64.wrap (2 * (a0.length:Int))).toNat) ((IntKind.i64.wrap (2 * (a0.length:Int))).toNat)),(92,.int .i64 (IntKind.i64.wrap ((IntKind.i64.wrap (2 * H))+1)))] rfl (fun U J=>fH wM sz3 (X.rd 3 rfl) i5 J rfl rfl rfl),pt [(93,.pointer (some (ea (some ⟨C,0,none⟩) ((IntKind.i64.wrap ((IntKind.i64.wrap (2 * H))+1)).toNat * 1))))] rfl (fun U J=>cM uu3 (n6 0 _ rfl) J rfl rfl rfl),pm rfl,pm rfl,trivial⟩ ⟨by kernel_rfl,by kernel_rfl⟩ [(4,_),(8,_),(9,_),(11,_),(12,_),(13,_)] rfl (fun U J=>?_)
     refine n4 _ _ (wp_seq_k fun n7 n8=>?_)
     have hj2:∀h5 h6 c5 c6,sZ e7 H h5 h6 c5 c6=some i3→∀f5 f6 f7 f8 f9 g0 U w,FR 125 [] U [(4,(pP z)),(8,.int .i64 (a0.length:Int)),(9,.slice (some ⟨C,0,none⟩) ((IntKind.i64.wrap (2 * (a0.length:Int))).toNat) ((IntKind.i64.wrap (2 * (a0.length:Int))).toNat)),(11,.int .i64 H),(12,.int .i64 c5),(13,.int .i64 c6)]→SH r (blk z 151 [.slice f5 f6 f7,.slice f8 f9 g0]::own (kM Z wz k47) 22 f5 f6 f7 h5::own (kI .i64) 3 f8 f9 g0 h6::own (kI .i64) 3 (some ⟨C,0,none⟩) ((IntKind.i64.wrap (2 * (a0.length:Int))).toNat) ((IntKind.i64.wrap (2 * (a0.length:Int))).toNat) e7::L) w→n7 U w:=by
      intro h5 h6 c5 c6 G f5 f6 f7 f8 f9 g0 U w J X
      unfold sZ at G
      refine n8 _ _ (aC ?_)
      refine xk 4 J rfl fun U J=>aL vM J (fun U J=>?_) rfl
      refine aI wM (X.cell 0 rfl 1 _ rfl) J (fun U J=>?_) rfl
      refine xk 3 J rfl fun U J=>?_
      obtain⟨u7,i6,G⟩:=bnd G
      refine fO wM sz3 (X.rd 3 rfl) i6 J (fun U J=>?_) rfl
      refine aF1 (z':=c5) (off:=0) (vs:=[.int .i64 c5]) 3 sz3 J X rfl (dQ i6).2.2 (fun c h=>by cases h; rfl) (fun  U w X J=>?_) rfl rfl rfl rfl rfl rfl rfl rfl
      obtain⟨u8,i7,G⟩:=bnd G
      refine fO wM sz3 (X.rd 3 rfl) i7 J (fun U J=>?_) rfl
      refine aF1 (z':=c6) (off:=0) (vs:=[.int .i64 c6]) 3 sz3 J X rfl (dQ i7).2.2 (fun c h=>by cases h; rfl) (fun  U w X J=>?_) rfl rfl rfl rfl rfl rfl rfl rfl
      refine wpList_nil (n3 _ _ ?_)
      refine m9 _ _ (aC ?_)
      refine nk 3 J rfl fun U J=>?_
      replace X:=X.pk 1 |>.pk 1 |>.pk 3 |>.pk 3
      cases G
      exact⟨_,m5 _ rfl,f5,f6,f7,f8,f9,g0,J.sub _ rfl,X⟩
     refine ws fun u9 n9=>xk 3 J rfl fun U J=>?_
     replace X:=X.pk 2 |>.pk 2 |>.pk 2
     replace X:=mW (x:=(⟨h3,h4⟩:S151)) X
     obtain⟨g1,o0,G⟩:=bnd G
     refine x_c aXr J rfl (wI o0 X (qz+1) hZ :) fun v U w hR J=>?_
     obtain⟨rfl,X⟩:=hR
     obtain⟨i8,i9,j0,j1,j2,j3,X⟩:=xC X
     refine wn (n9 _ _ ?_)
     refine bB J G rfl (fun o1 G=>?_) fun o1 G=>?_
     ·refine aC (nk 4 J rfl fun U J=>?_)
      exact hj2 g1.2.f0 g1.2.f1 e9 e8 G i8 i9 j0 j1 j2 j3 U w (J.sub _ rfl) X
     exact wp_skip (hj2 g1.2.f0 g1.2.f1 e8 e9 G i8 i9 j0 j1 j2 j3 U w (J.sub _ rfl) X)
    cases G
    exact wp_exit (m3 h3 h4 e7 (m6 _ rfl) e1 e2 e3 e4 e5 e6 U w (J.sub _ rfl) X)
   obtain⟨o2,o3,G⟩:=bnd G
   have o4:∀c7,(c7)=o2→∀U w,FR 125 [] U [(4,(pP z)),(8,.int .i64 (a0.length:Int)),(9,.slice (some ⟨C,0,none⟩) ((IntKind.i64.wrap (2 * (a0.length:Int))).toNat) ((IntKind.i64.wrap (2 * (a0.length:Int))).toNat))]→SH r (blk z 151 [.slice I S Y,.slice (some ⟨b3,0,none⟩) ((a0.length:Int).toNat) ((a0.length:Int).toNat)]::own (kM Z wz k47) 22 I S Y a7::own (kI .i64) 3 (some ⟨b3,0,none⟩) ((a0.length:Int).toNat) ((a0.length:Int).toNat) (List.replicate (a0.length:Int).toNat (0:Int))::own (kI .i64) 3 (some ⟨C,0,none⟩) ((IntKind.i64.wrap (2 * (a0.length:Int))).toNat) ((IntKind.i64.wrap (2 * (a0.length:Int))).toNat) c7::L) w→h9 U w:=by
    intro c7 ht U w J X
    subst ht
    replace G:sU a0 a7 c7=some y:=G
    unfold sU at G
    exact hb2 c7 G U w (J.sub _ rfl) X
   replace X:=X.pk 2 |>.pk 3 |>.pk 3
   refine aD o3 (fun s U w=>FR 125 [] U [(4,(pP z)),(8,.int .i64 (a0.length:Int)),(9,.slice (some ⟨C,0,none⟩) ((IntKind.i64.wrap (2 * (a0.length:Int))).toNat) ((IntKind.i64.wrap (2 * (a0.length:Int))).toNat)),(67,.int .i64 (a0.length:Int)),(68,.int .i64 s.2)]∧SH r (blk z 151 [.slice I S Y,.slice (some ⟨b3,0,none⟩) ((a0.length:Int).toNat) ((a0.length:Int).toNat)]::own (kM Z wz k47) 22 I S Y a7::own (kI .i64) 3 (some ⟨b3,0,none⟩) ((a0.length:Int).toNat) ((a0.length:Int).toNat) (List.replicate (a0.length:Int).toNat (0:Int))::own (kI .i64) 3 (some ⟨C,0,none⟩) ((IntKind.i64.wrap (2 * (a0.length:Int))).toNat) ((IntKind.i64.wrap (2 * (a0.length:Int))).toNat) s.1::L) w) ⟨J.sub _ rfl,X⟩ ?_
   intro v0 o5 o6 G o7 o8 U w hLab
   obtain⟨j4,h7⟩:=o5
   replace G:lY a0 j4 h7=some o6:=G
   unfold lY at G
   try dsimp only at hLab
   obtain⟨J,X⟩:=hLab
   refine nz 1 J rfl fun U J=>wp_seq_k fun v1 o9=>bB J G rfl (fun p1 G=>?_) fun p1 G=>?_
   ·refine wp_skip (o9 _ _ ?_)
    refine wp_seq_k fun v2 p2=>aA fun v3 p3=>nz 2 J rfl fun U J=>aC (xk 5 J rfl fun U J=>?_)
    obtain⟨v4,j5,G⟩:=bnd G
    refine fO wM sz3 (X.rd 3 rfl) j5 J (fun U J=>?_) rfl
    refine aF1 (z':=h7) (off:=0) (vs:=[.int .i64 h7]) 3 sz3 J X rfl (dQ j5).2.2 (fun c h=>by cases h; rfl) (fun  U w X J=>?_) rfl rfl rfl rfl rfl rfl rfl rfl
    refine wpList_nil (p3 _ _ ?_)
    refine p2 _ _ (aC ?_)
    refine nk 2 J rfl fun U J=>?_
    replace X:=X.pk 3 |>.pk 3 |>.pk 3
    cases G
    exact⟨_,o7 _ rfl,J.sub _ rfl,X⟩
   cases G
   exact wp_exit (o4 j4 (o8 _ rfl) U w (J.sub _ rfl) X)
  obtain⟨t212,p4,G⟩:=bnd G
  have p5:=G
  have p6:∀c8,(.inl (c8))=t212→∀g2 g3 g4 U w,FR 125 [] U [(0,.slice A0 n0 c0),(4,(pP z))]→SH r (blk z 151 [.slice g2 g3 g4,.slice none 0 0]::own (kM Z wz k47) 22 g2 g3 g4 c8::L) w→h8 U w:=by
   intro c8 ht g2 g3 g4 U w J X
   subst ht
   replace G:sG a0 c8=some y:=G
   unfold sG at G
   exact hb1 c8 G g2 g3 g4 U w (J.sub _ rfl) X
  replace X:=(SH.nil_own (d:=(kM Z wz k47)) (e:=22) X).pk 1
  refine aD p4 (fun s U w=>∃a1 a2 a3,FR 125 [] U [(0,.slice A0 n0 c0),(4,(pP z)),(24,.slice A0 n0 c0),(25,.int .i64 (a0.length:Int)),(26,.int .i64 s.2)]∧SH r (blk z 151 [.slice a1 a2 a3,.slice none 0 0]::own (kM Z wz k47) 22 a1 a2 a3 s.1::L) w) ⟨none,0,0,J.sub _ rfl,X⟩ ?_
  intro v5 p7 g5 G p8 j6 U w hLab
  obtain⟨b4,b5⟩:=p7
  replace G:lS a0 b4 b5=some g5:=G
  unfold lS at G
  try dsimp only at hLab
  obtain⟨a1,a2,a3,J,X⟩:=hLab
  refine nz 1 J rfl fun U J=>wp_seq_k fun v6 p9=>bB J G rfl (fun q0 G=>?_) fun q0 G=>?_
  ·refine wp_skip (p9 _ _ ?_)
   refine wp_seq_k fun v7 q1=>aA fun v8 q2=>ws fun v9 q3=>?_
   obtain⟨g6,j7,G⟩:=bnd G
   refine fO qJ aC3 (X.rdl 2 ha0 rfl) j7 J (fun U J=>?_) rfl
   obtain⟨cs,hV,q4⟩:=el (X.rdl 2 ha0 rfl) j7
   obtain⟨a4,a8,a9,rfl,b6⟩:=hV
   refine aI eT (q4 0 _ rfl) J (fun U J=>?_) rfl
   refine x_m J rfl fun U J=>wn (q3 _ _ ?_)
   refine wp_seq_k fun w0 q5=>nz 1 J rfl fun U J=>aA fun j8 q6=>?_
   have hb4:vT b4 b5 g6=some g5→∀U w,FR 125 [] U [(0,.slice A0 n0 c0),(4,(pP z)),(6,.slice a4 a8 a9),(24,.slice A0 n0 c0),(25,.int .i64 (a0.length:Int)),(26,.int .i64 b5)]→SH r (blk z 151 [.slice a1 a2 a3,.slice none 0 0]::own (kM Z wz k47) 22 a1 a2 a3 b4::L) w→j8 U w:=by
    intro G U w J X
    unfold vT at G
    refine q6 _ _ (q5 _ _ ?_)
    refine aC (xk 3 J rfl fun U J=>?_)
    refine aL vE J (fun U J=>?_) rfl
    refine aI qJ (X.cell 0 rfl 0 _ rfl) J (fun U J=>?_) rfl
    refine x_m J rfl fun U J=>gV (d:=(kM Z wz k47)) (e:=22) (ps:=#[(0,.slice a4 a8 a9)]) (cells:=[.slice a4 a8 a9]) (xs:=[g6]) (fun w=>by kernel_rfl) rfl ⟨[.slice a4 a8 a9],_,rfl,⟨_,_,_,rfl,b6⟩,rfl⟩ J X (fun w1 U w X J=>?_) rfl
    obtain⟨q7,G⟩:=aB G
    have hr:=X.rd 0 rfl
    refine gG 2 aUx qJ J X hr.1 hr.2.1 q7 rfl (fun q8 q9 r0 U w X J=>?_) rfl
    refine xk 1 J rfl fun U J=>aL vE J (fun U J=>?_) rfl
    refine dH 2 aZ6 J X rfl (fun  U w X J=>?_) rfl
    refine wpList_nil (q2 _ _ ?_)
    refine q1 _ _ (aC ?_)
    refine nk 2 J rfl fun U J=>?_
    replace X:=X.drop 2
    cases G
    exact⟨_,p8 _ rfl,q8,q9,r0,J.sub _ rfl,X⟩
   obtain⟨r1,r2,G⟩:=bnd G
   have r3:=G
   have r4:(.inl ())=r1→∀U w,FR 125 [] U [(0,.slice A0 n0 c0),(4,(pP z)),(6,.slice a4 a8 a9),(24,.slice A0 n0 c0),(25,.int .i64 (a0.length:Int)),(26,.int .i64 b5)]→SH r (blk z 151 [.slice a1 a2 a3,.slice none 0 0]::own (kM Z wz k47) 22 a1 a2 a3 b4::L) w→j8 U w:=by
    intro ht U w J X
    subst ht
    replace G:sA b4 b5 g6=some g5:=G
    unfold sA at G
    exact hb4 G U w (J.sub _ rfl) X
   refine aD r2 (fun s U w=>FR 125 [] U [(0,.slice A0 n0 c0),(4,(pP z)),(6,.slice a4 a8 a9),(7,.int .i64 s),(24,.slice A0 n0 c0),(25,.int .i64 (a0.length:Int)),(26,.int .i64 b5)]∧SH r (blk z 151 [.slice a1 a2 a3,.slice none 0 0]::own (kM Z wz k47) 22 a1 a2 a3 b4::L) w) ⟨J.sub _ rfl,X⟩ ?_
   intro w2 r5 r6 G r7 j9 U w hLab
   obtain⟨b7,rfl⟩:∃ q,q=r5:=⟨_,rfl⟩
   replace G:pO g6 b7=some r6:=G
   unfold pO at G
   try dsimp only at hLab
   obtain⟨J,X⟩:=hLab
   refine wp_seq_k fun w3 r8=>ws fun w4 r9=>xk 2 J rfl fun U J=>aX eT (X.rdl 2 (b6.rdl qz hZ) rfl).2.1 J (fun U J=>?_) rfl
   refine nk 1 J rfl fun U J=>r9 _ _ (bB J G rfl (fun s2 G=>?_) fun s2 G=>?_)
   ·refine wp_skip (r8 _ _ ?_)
    refine wp_seq_k fun w5 s3=>aA fun w6 s4=>wp_seq_k fun w7 s5=>cN [0,0,3,7,0,0,32,112,240,511] [9] rfl J X (by kernel_rfl) (by kernel_rfl) (by kernel_rfl) (by kernel_rfl) fun w X=>?_
    obtain⟨a5,k0,G⟩:=bnd G
    obtain⟨cs,hV,s6⟩:=el (X.rdl 2 (b6.rdl qz hZ) rfl) k0
    obtain rfl:=hV
    obtain⟨a6,k1,G⟩:=bnd G
    obtain⟨cs,hV,s7⟩:=el (X.rdl 2 (b6.rdl qz hZ) rfl) k1
    obtain rfl:=hV
    refine⟨[(0,.slice a4 a8 a9),(1,.int .i64 b7),(2,.pointer (some (ea a4 (b7.toNat * 5)))),(3,.agg #[.int .u64 a5.f0,.int .i64 a5.f1,.int .i64 a5.f2,str a5.f3,.float .f64 a5.f4]),(4,.slice a4 a8 a9),(5,.int .i64 b7),(6,.int .i64 (IntKind.i64.wrap (b7 - 1))),(7,.pointer (some (ea a4 ((IntKind.i64.wrap (b7 - 1)).toNat * 5)))),(8,.agg #[.int .u64 a6.f0,.int .i64 a6.f1,.int .i64 a6.f2,str a6.f3,.float .f64 a6.f4])],?_⟩
    refine dF [0,1,2,3,4,5,6,7,8] [9] (by kernel_rfl) ⟨pm rfl,pm rfl,pt [(36,_),(37,_)] rfl (fun U J=>fH eT cI (X.rdl 2 (b6.rdl qz hZ) rfl) k0 J rfl rfl rfl),pt [(38,_)] rfl (fun U J=>nJ (cs:=[.int .u64 a5.f0,.int .i64 a5.f1,.int .i64 a5.f2,str a5.f3,.float .f64 a5.f4]) mG cI (fun j u h=>by rw [fG]; exact s6 _ _ h) J rfl rfl rfl),pm rfl,pm rfl,pt [(41,_)] rfl (fun U J=>oY rfl (J.ev rfl) (J.ev rfl)),pt [(40,_),(42,_)] rfl (fun U J=>fH eT cI (X.rdl 2 (b6.rdl qz hZ) rfl) k1 J rfl rfl rfl),pt [(43,_)] rfl (fun U J=>nJ (cs:=[.int .u64 a6.f0,.int .i64 a6.f1,.int .i64 a6.f2,str a6.f3,.float .f64 a6.f4]) mG cI (fun j u h=>by rw [fG]; exact s7 _ _ h) J rfl rfl rfl),trivial⟩ ⟨et [(39,_),(44,_)] rfl (fun U J K hK=>?_),trivial⟩
    obtain⟨w8,s8,G⟩:=bnd G
    refine nQ aQu J (sO s8 X :) (fun v w hR=>?_) rfl
    obtain⟨rfl,X⟩:=hR
    refine hK _ [] _ rfl (gM [] (by kernel_rfl) trivial ⟨by kernel_rfl,by kernel_rfl⟩ [(0,_),(4,_),(6,_),(7,_),(24,_),(25,_),(26,_),(45,_)] rfl (fun U J=>?_))
    refine s5 _ _ (bB J G rfl (fun s9 G=>?_) fun s9 G=>?_)
    ·refine nz 2 J rfl fun U J=>?_
     replace X:=(SH.optN (obj151 Z wz) X).drop 1 |>.drop 1
     cases G
     refine wp_ret ?_
     have ht:=j9 _ rfl
     subst ht
     replace G:=r3
     replace G:some (.inr (.inr (none,7)))=some g5:=G
     cases G
     have ht:=j6 _ rfl
     subst ht
     replace G:=p5
     replace G:some (none,7)=some y:=G
     cases G
     refine hQ _ _ (lv2 Tryz.results72 J rfl rfl ?_)
     exact⟨none,rfl,X⟩
    refine wp_skip (s4 _ _ ?_)
    refine s3 _ _ (aC ?_)
    refine nk 3 J rfl fun U J=>?_
    cases G
    exact⟨_,r7 _ rfl,J.sub _ rfl,X⟩
   cases G
   exact wp_exit (r4 (j9 _ rfl) U w (J.sub _ rfl) X)
  cases G
  exact wp_exit (p6 b4 (j6 _ rfl) a1 a2 a3 U w (J.sub _ rfl) X)
 refine aC (x_m J rfl fun U J=>?_)
 refine aX qJ (X.rdl 0 ha0 rfl).2.1 J (fun U J=>?_) rfl
 refine xk 2 J rfl fun U J=>bcG G (fun c9 G=>?_) fun c9 G=>?_
 ·exact ng 4 c9 J rfl rfl fun U J=>hj1 true G U w (J.sub _ rfl) X
 refine xg 1 c9 J rfl rfl fun U J=>aO c9 J ?_ rfl
 refine aX qJ (X.rdl 0 ha0 rfl).2.1 J (fun U J=>?_) rfl
 exact ng 2 c9 J rfl rfl fun U J=>hj1 (decide (16<(a0.length:Int))) G U w (J.sub _ rfl) X
theorem wZ {a0 p0 y} (G:iN a0=some y) (X:SH r (sB (obj151 Z wz) p0 a0::L) w) (qz:Nat) (hZ:L[qz]?=some (zone Z wz)) :
  Ret Tryz.prog 73 #[.pointer p0] w fun v w'=>v=.tuple #[(.agg #[.int .u64 y.1.f0,.int .i64 y.1.f1,.int .i64 y.1.f2,str y.1.f3,.float .f64 y.1.f4]),(.int .i64 y.2.1),(.bool y.2.2.1)]∧SH r (sB (obj151 Z wz) p0 y.2.2.2::L) w':=by
 refine enter Tryz.func73 rfl Tryz.ntmps73 [(0,_)] rfl (by simp) ?_
 intro U J Qf hQ hQn
 unfold iN at G
 cases a0 with
 | none =>
  have hU:=SH.unoptN X
  clear X
  obtain⟨rfl,X⟩:=hU
  refine ws fun m4 h9=>iC (cs:=[.int .u64 0,.int .i64 0,.int .i64 0,str [],.float .f64 0]) aJ5 J X (fun m5 U w X J=>?_) rfl
  refine nk 2 J rfl fun U J=>h9 _ _ (wp_seq_k fun m6 m7=>?_)
  refine wp_seq_k fun m8 i0=>cN [0,1,3,7,15,31,63,7,135,391,903,1927,3975,8191,16383,32767,65535,131071] [] rfl J X (by kernel_rfl) (by kernel_rfl) (by kernel_rfl) (by kernel_rfl) fun w X=>⟨[(0,.pointer none),(1,.bool true),(2,.bool true),(3,undef),(4,undef),(5,undef),(6,undef),(7,undef),(8,undef),(9,undef),(10,undef),(11,undef),(12,undef),(13,undef),(14,undef),(15,undef),(16,undef),(17,.bool true)],?_⟩
  refine gM [0,1,2,3,4,5,6,7,8,9,10,11,12,13,14,15,16,17] (by kernel_rfl) ⟨pm rfl,pt [(9,.pointer none)] rfl fun U J=>uM (p:=none) aVk rfl (J.ev rfl) (J.ev rfl),pm rfl,eG rfl rfl rfl rfl [(0,.pointer none),(11,.bool true)] rfl rfl rfl,eG rfl rfl rfl rfl [(11,.bool true),(12,undef)] rfl rfl rfl,eG rfl rfl rfl rfl [(11,.bool true),(13,undef)] rfl rfl rfl,eG rfl rfl rfl rfl [(11,.bool true),(14,undef)] rfl rfl rfl,eG rfl rfl rfl rfl [(0,.pointer none),(11,.bool true)] rfl rfl rfl,eG rfl rfl rfl rfl [(11,.bool true),(16,undef)] rfl rfl rfl,eG rfl rfl rfl rfl [(11,.bool true),(17,undef)] rfl rfl rfl,eG rfl rfl rfl rfl [(11,.bool true),(18,undef)] rfl rfl rfl,eG rfl rfl rfl rfl [(11,.bool true),(19,undef)] rfl rfl rfl,eG rfl rfl rfl rfl [(11,.bool true),(20,undef)] rfl rfl rfl,eG rfl rfl rfl rfl [(11,.bool true),(15,undef),(21,undef)] rfl rfl rfl,eG rfl rfl rfl rfl [(11,.bool true),(22,undef)] rfl rfl rfl,eG rfl rfl rfl rfl [(11,.bool true),(23,undef)] rfl rfl rfl,eG rfl rfl rfl rfl [(11,.bool true),(24,undef)] rfl rfl rfl,pt [(11,.bool true),(25,undef)] rfl (fun U J=>aAw rfl J rfl rfl rfl),trivial⟩ ⟨by kernel_rfl,by kernel_rfl⟩ [(0,_),(2,_),(26,_)] rfl (fun U J=>?_)
  refine i0 _ _ (c_t (b:=true) rfl J ?_ rfl)
  refine ws fun m9 i1=>x_v (v:=.agg #[.int .u64 0,.int .i64 0,.int .i64 0,str [],.float .f64 0]) J (nU (ps:=#[]) rfl (qP J rfl) (fun w=>by kernel_rfl)) rfl fun U J=>dH 0 cI J X rfl (fun  U w X J=>?_) rfl
  refine nk 2 J rfl fun U J=>i1 _ _ (wp_ret ?_)
  have hS0:=X
  replace X:=(SH.optN (obj151 Z wz) X).drop 1
  cases G
  refine hQ _ _ (aW9 (cs:=[.int .u64 0,.int .i64 0,.int .i64 0,str [],.float .f64 0]) Tryz.results73 mG cI hS0 0 rfl J rfl rfl rfl rfl ?_)
  exact⟨rfl,X⟩
 | some i2 =>
  have hU:=SH.unoptS X
  clear X
  obtain⟨z,rfl,X⟩:=hU
  obtain⟨I,a6,a7,a8,e3,e4,X⟩:=xC X
  refine ws fun n0 i3=>iC (cs:=[.int .u64 0,.int .i64 0,.int .i64 0,str [],.float .f64 0]) aJ5 J X (fun Y U w X J=>?_) rfl
  refine nk 2 J rfl fun U J=>i3 _ _ (wp_seq_k fun n3 i4=>?_)
  refine wp_seq_k fun n4 i5=>cN [0,1,3,7,15,31,63,7,135,391,903,1927,3975,8191,16383,32767,65535,131071] [] rfl J X (by kernel_rfl) (by kernel_rfl) (by kernel_rfl) (by kernel_rfl) fun w X=>?_
  obtain⟨H,b6,G⟩:=bnd G
  obtain⟨cs,hV,i6⟩:=el (X.rd 3 rfl) b6
  obtain rfl:=hV
  obtain⟨a9,a1,G⟩:=bnd G
  obtain⟨cs,hV,i7⟩:=el (X.rd 2 rfl) a1
  obtain⟨g4,g5,g6,rfl,i8⟩:=hV
  refine⟨[(0,(pP z)),(1,.bool false),(2,.bool false),(3,(pP z)),(4,(pP z)),(5,(pP z)),(6,.slice I a6 a7),(7,(pP z)),(8,(pP z)),(9,.pointer (some ⟨z,1,none⟩)),(10,.slice a8 e3 e4),(11,.pointer (some (ea a8 ((0:Int).toNat * 1)))),(12,.int .i64 H),(13,.pointer (some (ea I (H.toNat * 1)))),(14,.slice g4 g5 g6),(15,.int .i64 (a9.length:Int)),(16,.bool ((a9.length:Int)==0)),(17,.bool ((a9.length:Int)==0))],?_⟩
  refine gM [0,1,2,3,4,5,6,7,8,9,10,11,12,13,14,15,16,17] (by kernel_rfl) ⟨pm rfl,pt [(9,(pP z))] rfl fun U J=>uM (p:=some ⟨z,0,none⟩) aVk rfl (J.ev rfl) (J.ev rfl),pm rfl,iH rfl rfl rfl rfl [(0,(pP z)),(11,.bool false)] rfl rfl (fun U J=>mH J rfl rfl) rfl,iH rfl rfl rfl rfl [(11,.bool false),(12,(pP z))] rfl rfl (fun U J=>dC rfl (J.ev rfl)) rfl,iH rfl rfl rfl rfl [(11,.bool false),(13,(pP z))] rfl rfl (fun U J=>eR vE J rfl rfl) rfl,iH rfl rfl rfl rfl [(11,.bool false),(14,(pP z))] rfl rfl (fun U J=>cM qJ (X.cell 1 rfl 0 _ rfl) J rfl rfl rfl) rfl,iH rfl rfl rfl rfl [(0,(pP z)),(11,.bool false)] rfl rfl (fun U J=>mH J rfl rfl) rfl,iH rfl rfl rfl rfl [(11,.bool false),(16,(pP z))] rfl rfl (fun U J=>dC rfl (J.ev rfl)) rfl,iH rfl rfl rfl rfl [(11,.bool false),(17,(pP z))] rfl rfl (fun U J=>eR vM J rfl rfl) rfl,iH rfl rfl rfl rfl [(11,.bool false),(18,.pointer (some ⟨z,1,none⟩))] rfl rfl (fun U J=>cM wM (X.cell 1 rfl 1 _ rfl) J rfl rfl rfl) rfl,iH rfl rfl rfl rfl [(11,.bool false),(19,.slice a8 e3 e4)] rfl rfl (fun U J=>fH wM sz3 (X.rd 3 rfl) b6 J rfl rfl rfl) rfl,iH rfl rfl rfl rfl [(11,.bool false),(20,.pointer (some (ea a8 ((0:Int).toNat * 1))))] rfl rfl (fun U J=>cM uu3 (i6 0 _ rfl) J rfl rfl rfl) rfl,iH rfl rfl rfl rfl [(11,.bool false),(15,.slice I a6 a7),(21,.int .i64 H)] rfl rfl (fun U J=>fH qJ aC3 (X.rd 2 rfl) a1 J rfl rfl rfl) rfl,iH rfl rfl rfl rfl [(11,.bool false),(22,.pointer (some (ea I (H.toNat * 1))))] rfl rfl (fun U J=>cM eT (i7 0 _ rfl) J rfl rfl rfl) rfl,iH rfl rfl rfl rfl [(11,.bool false),(23,.slice g4 g5 g6)] rfl rfl (fun U J=>aDm eT (X.rdl 4 (i8.rdl qz hZ) rfl).2.1 J rfl rfl) rfl,iH rfl rfl rfl rfl [(11,.bool false),(24,.int .i64 (a9.length:Int))] rfl rfl (fun U J=>aHa rfl (J.ev rfl) (J.ev rfl)) rfl,pt [(11,.bool false),(25,.bool ((a9.length:Int)==0))] rfl (fun U J=>yN rfl J rfl rfl rfl),trivial⟩ ⟨by kernel_rfl,by kernel_rfl⟩ [(0,_),(2,_),(26,_)] rfl (fun U J=>?_)
  refine i5 _ _ (bB J G rfl (fun i9 G=>?_) fun i9 G=>?_)
  ·refine ws fun n5 j0=>x_v (v:=.agg #[.int .u64 0,.int .i64 0,.int .i64 0,str [],.float .f64 0]) J (nU (ps:=#[]) rfl (qP J rfl) (fun w=>by kernel_rfl)) rfl fun U J=>dH 0 cI J X rfl (fun  U w X J=>?_) rfl
   refine nk 2 J rfl fun U J=>j0 _ _ (wp_ret ?_)
   have hS0:=X
   replace X:=(SH.optS (mW (x:=i2) (X.pk 3 |>.pk 3 |>.pk 3))).drop 1
   cases G
   refine hQ _ _ (aW9 (cs:=[.int .u64 0,.int .i64 0,.int .i64 0,str [],.float .f64 0]) Tryz.results73 mG cI hS0 0 rfl J rfl rfl rfl rfl ?_)
   exact⟨rfl,X⟩
  refine wp_skip (i4 _ _ ?_)
  refine ws fun n6 j1=>xk 2 J rfl fun U J=>aL vM J (fun U J=>?_) rfl
  refine aI wM (X.cell 1 rfl 1 _ rfl) J (fun U J=>?_) rfl
  refine fO wM sz3 (X.rd 3 rfl) b6 J (fun U J=>?_) rfl
  obtain⟨cs,hV,j2⟩:=el (X.rd 3 rfl) b6
  obtain rfl:=hV
  refine aI uu3 (j2 0 _ rfl) J (fun U J=>?_) rfl
  refine x_m J rfl fun U J=>wn (j1 _ _ ?_)
  refine ws fun n7 j3=>xk 2 J rfl fun U J=>aL vE J (fun U J=>?_) rfl
  refine aI qJ (X.cell 1 rfl 0 _ rfl) J (fun U J=>?_) rfl
  refine x_m J rfl fun U J=>fO qJ aC3 (X.rd 2 rfl) a1 J (fun U J=>?_) rfl
  obtain⟨cs,hV,j4⟩:=el (X.rd 2 rfl) a1
  obtain⟨n8,n9,o0,rfl,g7⟩:=hV
  refine aI eT (j4 0 _ rfl) J (fun U J=>?_) rfl
  obtain⟨C,g8,G⟩:=bnd G
  refine fO eT cI (X.rdl 4 (g7.rdl qz hZ) rfl) g8 J (fun U J=>?_) rfl
  obtain⟨cs,hV,j5⟩:=el (X.rdl 4 (g7.rdl qz hZ) rfl) g8
  obtain rfl:=hV
  refine nF (cs:=[.int .u64 C.f0,.int .i64 C.f1,.int .i64 C.f2,str C.f3,.float .f64 C.f4]) mG cI (fun j u h=>by rw [fG]; exact j5 _ _ h) J (fun U J=>?_) rfl
  refine iC (cs:=[.int .u64 0,.int .i64 0,.int .i64 0,str [],.float .f64 0]) aJ5 J X (fun S U w X J=>?_) rfl
  refine dH 0 cI J X rfl (fun  U w X J=>?_) rfl
  refine wn (j3 _ _ ?_)
  refine wp_seq_k fun o1 j6=>cN [0,1,3,7,0,0,32,96,224,0,992,2016,4064,8191,16383] [14] rfl J X (by kernel_rfl) (by kernel_rfl) (by kernel_rfl) (by kernel_rfl) fun w X=>?_
  obtain⟨cs,hV,j7⟩:=el (X.rd 3 rfl) a1
  obtain⟨j8,j9,k0,rfl,e5⟩:=hV
  obtain⟨k1,e6,G⟩:=bnd G
  obtain⟨g9,h0,h1,k2,k3⟩:=aE6 e5 e6
  refine⟨[(0,(pP z)),(1,(pP z)),(2,(pP z)),(3,.slice I a6 a7),(4,.int .i64 H),(5,(pP z)),(6,(pP z)),(7,(pP z)),(8,.slice I a6 a7),(9,.int .i64 H),(10,.pointer (some (ea I (H.toNat * 1)))),(11,.slice j8 j9 k0),(12,.slice g9 h0 h1),(13,.pointer (some (ea I (H.toNat * 1))))],?_⟩
  refine dF [0,1,2,3,4,5,6,7,8,9,10,11,12,13] [14] (by kernel_rfl) ⟨pm rfl,pt [(43,_)] rfl (fun U J=>dC rfl (J.ev rfl)),pt [(44,_)] rfl (fun U J=>eR vE J rfl rfl),pt [(45,_)] rfl (fun U J=>cM qJ (X.cell 2 rfl 0 _ rfl) J rfl rfl rfl),pm rfl,pm rfl,pt [(48,_)] rfl (fun U J=>dC rfl (J.ev rfl)),pt [(49,_)] rfl (fun U J=>eR vE J rfl rfl),pt [(50,_)] rfl (fun U J=>cM qJ (X.cell 2 rfl 0 _ rfl) J rfl rfl rfl),pm rfl,pt [(51,_),(52,_)] rfl (fun U J=>fH qJ aC3 (X.rd 3 rfl) a1 J rfl rfl rfl),pt [(53,_)] rfl (fun U J=>cM eT (j7 0 _ rfl) J rfl rfl rfl),pt [(54,_)] rfl fun U J=>aF8 k2 (kJ eT cI rfl (J.ev rfl) (J.ev rfl) (sF (X.rdl 5 (e5.rdl qz hZ) rfl) e6).1 (sF (X.rdl 5 (e5.rdl qz hZ) rfl) e6).2.2.2.2.2),pt [(46,_),(47,_)] rfl (fun U J=>fH qJ aC3 (X.rd 3 rfl) a1 J rfl rfl rfl),trivial⟩ ⟨et [(55,_),(56,_)] rfl (fun U J K hK=>?_),trivial⟩
  refine xE (z':=k1) (off:=0) (vs:=[.slice g9 h0 h1]) 3 aC3 J X rfl (dQ a1).2.2 (fun c h=>by obtain⟨_,_,_,rfl,_⟩:=h; exact⟨_,_,_,rfl,k3⟩) (fun  w X=>?_) rfl rfl rfl rfl rfl rfl
  refine hK _ [] _ rfl (gM [] (by kernel_rfl) trivial ⟨by kernel_rfl,by kernel_rfl⟩ [(0,_),(2,_),(5,_),(6,_)] rfl (fun U J=>?_))
  refine j6 _ _ (nz 2 J rfl fun U J=>?_)
  refine wp_seq_k fun o2 k4=>ws fun o3 k5=>xk 3 J rfl fun U J=>aL vE J (fun U J=>?_) rfl
  refine aI qJ (X.cell 3 rfl 0 _ rfl) J (fun U J=>?_) rfl
  refine aX qJ (X.rd 0 rfl).2.1 J (fun U J=>?_) rfl
  refine xk 1 J rfl fun U J=>x_v J (aDq rfl (J.ev rfl) (J.ev rfl) (by decide)) rfl fun U J=>x_m J rfl fun U J=>wn (k5 _ _ ?_)
  refine aA fun h2 k6=>?_
  have hb1:∀b7 b8 a4,nP H C b7 b8 a4=some y→∀e7 e8 e9 f5 f6 f7 U w,FR 102 [] U [(0,(pP z)),(2,(pP Y)),(5,.int .i64 H),(6,(pP S)),(7,.int .i64 a4)]→SH r (blk z 151 [.slice e7 e8 e9,.slice f5 f6 f7]::blk Y 47 [.int .u64 0,.int .i64 0,.int .i64 0,str [],.float .f64 0]::blk S 47 [.int .u64 C.f0,.int .i64 C.f1,.int .i64 C.f2,str C.f3,.float .f64 C.f4]::own (kM Z wz k47) 22 e7 e8 e9 b7::own (kI .i64) 3 f5 f6 f7 b8::L) w→h2 U w:=by
   intro b7 b8 a4 G e7 e8 e9 f5 f6 f7 U w J X
   unfold nP at G
   refine k6 _ _ (k4 _ _ ?_)
   refine ws fun o4 k7=>xk 2 J rfl fun U J=>aL vM J (fun U J=>?_) rfl
   refine aI wM (X.cell 0 rfl 1 _ rfl) J (fun U J=>?_) rfl
   refine x_m J rfl fun U J=>?_
   obtain⟨o5,h3,G⟩:=bnd G
   refine fO wM sz3 (X.rd 4 rfl) h3 J (fun U J=>?_) rfl
   refine aF1 (z':=a4) (off:=0) (vs:=[.int .i64 a4]) 4 sz3 J X rfl (dQ h3).2.2 (fun c h=>by cases h; rfl) (fun  U w X J=>?_) rfl rfl rfl rfl rfl rfl rfl rfl
   refine wn (k7 _ _ ?_)
   refine ws fun o6 k8=>nF (ad:=⟨S,0,none⟩) (cs:=[.int .u64 C.f0,.int .i64 C.f1,.int .i64 C.f2,str C.f3,.float .f64 C.f4]) mG cI (fun j u h=>by rw [nC,Nat.zero_add]; exact X.cell 3 rfl j u h) J (fun U J=>?_) rfl
   refine x_m J rfl fun U J=>dH 2 cI J X rfl (fun  U w X J=>?_) rfl
   refine nk 2 J rfl fun U J=>k8 _ _ (wp_ret ?_)
   have hS0:=X
   replace X:=X.pk 1 |>.pk 4 |>.pk 3
   replace X:=(SH.optS (mW (x:=(⟨b7,b8.set (0:Int).toNat a4⟩:S151)) X)).drop 1 |>.drop 1
   cases G
   refine hQ _ _ (aW9 (cs:=[.int .u64 C.f0,.int .i64 C.f1,.int .i64 C.f2,str C.f3,.float .f64 C.f4]) Tryz.results73 mG cI hS0 0 rfl J rfl rfl rfl rfl ?_)
   exact⟨rfl,X⟩
  obtain⟨t171,k9,G⟩:=bnd G
  have l0:∀b3 b4 b5,(b3,b4,b5)=t171→∀b9 c0 c3 c4 c5 c6 U w,FR 102 [] U [(0,(pP z)),(2,(pP Y)),(5,.int .i64 H),(6,(pP S)),(7,.int .i64 b5)]→SH r (blk z 151 [.slice b9 c0 c3,.slice c4 c5 c6]::blk Y 47 [.int .u64 0,.int .i64 0,.int .i64 0,str [],.float .f64 0]::blk S 47 [.int .u64 C.f0,.int .i64 C.f1,.int .i64 C.f2,str C.f3,.float .f64 C.f4]::own (kM Z wz k47) 22 b9 c0 c3 b3::own (kI .i64) 3 c4 c5 c6 b4::L) w→h2 U w:=by
   intro b3 b4 b5 ht b9 c0 c3 c4 c5 c6 U w J X
   subst ht
   replace G:lZ H C b3 b4 b5=some y:=G
   unfold lZ at G
   exact hb1 b3 b4 b5 G b9 c0 c3 c4 c5 c6 U w (J.sub _ rfl) X
  replace X:=X.pk 4 |>.pk 1 |>.pk 2 |>.pk 3 |>.pk 4
  refine aD k9 (fun s U w=>∃c7 c8 c9 d0 d1 d2,FR 102 [] U [(0,(pP z)),(2,(pP Y)),(5,.int .i64 H),(6,(pP S)),(7,.int .i64 s.2.2.1),(8,.int .i64 s.2.2.2)]∧SH r (blk z 151 [.slice c7 c8 c9,.slice d0 d1 d2]::blk Y 47 [.int .u64 0,.int .i64 0,.int .i64 0,str [],.float .f64 0]::blk S 47 [.int .u64 C.f0,.int .i64 C.f1,.int .i64 C.f2,str C.f3,.float .f64 C.f4]::own (kM Z wz k47) 22 c7 c8 c9 s.1::own (kI .i64) 3 d0 d1 d2 s.2.1::L) w) ⟨I,a6,a7,a8,e3,e4,J.sub _ rfl,X⟩ ?_
  intro o7 l1 h4 G l2 l3 U w hLab
  obtain⟨f8,f9,a3,a2⟩:=l1
  replace G:iW f8 f9 a3 a2=some h4:=G
  unfold iW at G
  try dsimp only at hLab
  obtain⟨c7,c8,c9,d0,d1,d2,J,X⟩:=hLab
  refine wp_seq_k fun o8 l4=>nz 2 J rfl fun U J=>bB J G rfl (fun l5 G=>?_) fun l5 G=>?_
  ·refine wp_skip (l4 _ _ ?_)
   refine wp_seq_k fun o9 l6=>aA fun l7 l8=>?_
   have hb2:∀g0 g1 g2,kT a2 g0 g1 g2=some h4→∀d3 d4 d5 d6 d7 d8 U w,FR 102 [] U [(0,(pP z)),(2,(pP Y)),(5,.int .i64 H),(6,(pP S)),(7,.int .i64 g2),(8,.int .i64 a2)]→SH r (blk z 151 [.slice d3 d4 d5,.slice d6 d7 d8]::blk Y 47 [.int .u64 0,.int .i64 0,.int .i64 0,str [],.float .f64 0]::blk S 47 [.int .u64 C.f0,.int .i64 C.f1,.int .i64 C.f2,str C.f3,.float .f64 C.f4]::own (kM Z wz k47) 22 d3 d4 d5 g0::own (kI .i64) 3 d6 d7 d8 g1::L) w→l7 U w:=by
    intro g0 g1 g2 G d3 d4 d5 d6 d7 d8 U w J X
    unfold kT at G
    refine l8 _ _ (l6 _ _ ?_)
    refine aC (x_m J rfl fun U J=>?_)
    refine x_v J (aDq rfl (J.ev rfl) (J.ev rfl) (by decide)) rfl fun U J=>x_m J rfl fun U J=>wpList_nil ?_
    cases G
    exact⟨_,l2 _ rfl,d3,d4,d5,d6,d7,d8,J.sub _ rfl,X⟩
   refine ws fun p1 l9=>xk 3 J rfl fun U J=>aL vM J (fun U J=>?_) rfl
   refine aI wM (X.cell 0 rfl 1 _ rfl) J (fun U J=>?_) rfl
   refine x_m J rfl fun U J=>?_
   obtain⟨p2,h5,G⟩:=bnd G
   refine fO wM sz3 (X.rd 4 rfl) h5 J (fun U J=>?_) rfl
   obtain⟨cs,hV,m0⟩:=el (X.rd 4 rfl) h5
   obtain rfl:=hV
   refine aI uu3 (m0 0 _ rfl) J (fun U J=>?_) rfl
   refine x_m J rfl fun U J=>?_
   replace X:=X.pk 4 |>.pk 4 |>.pk 2
   replace X:=mW (x:=(⟨f8,f9⟩:S151)) X
   obtain⟨d9,m1,G⟩:=bnd G
   refine x_c aXr J rfl (wI m1 X (qz+2) hZ :) fun v U w hR J=>?_
   obtain⟨rfl,X⟩:=hR
   obtain⟨h6,h7,h8,a5,e0,e1,X⟩:=xC X
   refine wn (l9 _ _ ?_)
   refine bB J G rfl (fun m2 G=>?_) fun m2 G=>?_
   ·refine cN [0,1,3,7,0,0,32,96,224,0,992,2016,0,8160,16383,32767] [15] rfl J X (by kernel_rfl) (by kernel_rfl) (by kernel_rfl) (by kernel_rfl) fun w X=>?_
    obtain⟨g3,e2,G⟩:=bnd G
    obtain⟨cs,hV,m3⟩:=el (X.rd 2 rfl) e2
    obtain rfl:=hV
    refine⟨[(0,(pP z)),(1,(pP z)),(2,.pointer (some ⟨z,1,none⟩)),(3,.slice a5 e0 e1),(4,.int .i64 a2),(5,(pP z)),(6,(pP z)),(7,.pointer (some ⟨z,1,none⟩)),(8,.slice a5 e0 e1),(9,.int .i64 a2),(10,.pointer (some (ea a5 (a2.toNat * 1)))),(11,.int .i64 g3),(12,.int .i64 a3),(13,.int .i64 g3),(14,.pointer (some (ea a5 (a2.toNat * 1))))],?_⟩
    refine dF [0,1,2,3,4,5,6,7,8,9,10,11,12,13,14] [15] (by kernel_rfl) ⟨pm rfl,pt [(80,_)] rfl (fun U J=>dC rfl (J.ev rfl)),pt [(81,_)] rfl (fun U J=>eR vM J rfl rfl),pt [(82,_)] rfl (fun U J=>cM wM (X.cell 0 rfl 1 _ rfl) J rfl rfl rfl),pm rfl,pm rfl,pt [(85,_)] rfl (fun U J=>dC rfl (J.ev rfl)),pt [(86,_)] rfl (fun U J=>eR vM J rfl rfl),pt [(87,_)] rfl (fun U J=>cM wM (X.cell 0 rfl 1 _ rfl) J rfl rfl rfl),pm rfl,pt [(88,_),(89,_)] rfl (fun U J=>fH wM sz3 (X.rd 2 rfl) e2 J rfl rfl rfl),pt [(90,_)] rfl (fun U J=>cM uu3 (m3 0 _ rfl) J rfl rfl rfl),pm rfl,pm rfl,pt [(83,_),(84,_)] rfl (fun U J=>fH wM sz3 (X.rd 2 rfl) e2 J rfl rfl rfl),trivial⟩ ⟨et [(92,_),(93,_)] rfl (fun U J K hK=>?_),trivial⟩
    refine xE (z':=a3) (off:=0) (vs:=[.int .i64 a3]) 2 sz3 J X rfl (dQ e2).2.2 (fun c h=>by cases h; rfl) (fun  w X=>?_) rfl rfl rfl rfl rfl rfl
    refine hK _ [] _ rfl (gM [] (by kernel_rfl) trivial ⟨by kernel_rfl,by kernel_rfl⟩ [(0,_),(2,_),(5,_),(6,_),(7,_),(8,_)] rfl (fun U J=>?_))
    replace X:=X.pk 2 |>.pk 4 |>.pk 4 |>.pk 4
    exact hb2 d9.2.f0 (d9.2.f1.set a2.toNat a3) g3 G h6 h7 h8 a5 e0 e1 U w (J.sub _ rfl) X
   replace X:=X.pk 2 |>.pk 2 |>.pk 4 |>.pk 4 |>.pk 4
   exact wp_skip (hb2 d9.2.f0 d9.2.f1 a3 G h6 h7 h8 a5 e0 e1 U w (J.sub _ rfl) X)
  cases G
  exact wp_exit (l0 f8 f9 a3 (l3 _ rfl) c7 c8 c9 d0 d1 d2 U w (J.sub _ rfl) X)
theorem aJu {a0 A0 n0 c0 y} (G:rO a0=some y) (X:SH r (L) w) (qz:Nat) (hZ:L[qz]?=some (zone Z wz)) (ha0:RdL L (kM Z wz k47) A0 n0 c0 a0) :
  Ret Tryz.prog 60 #[.slice A0 n0 c0] w fun v w'=>∃ (B0:Option Addr) (m0:Nat) (d0:Nat),v=.tuple #[(.slice B0 m0 d0),(.int .i64 y.2)]∧SH r (own k47 47 B0 m0 d0 y.1::L) w':=by
 refine enter Tryz.func60 rfl Tryz.ntmps60 [(0,_)] rfl (by simp) ?_
 intro U J Qf hQ hQn
 unfold rO at G
 refine nz 2 J rfl fun U J=>ws fun f4 b8=>xk 1 J rfl fun U J=>?_
 obtain⟨f5,b9,G⟩:=bnd G
 refine x_c bBr J rfl (aK9 b9 X (qz+0) hZ (RdL.sfx 0 rfl ha0) :) fun v U w hR J=>?_
 obtain⟨b5,rfl,X⟩:=hR
 refine nk 5 J rfl fun U J=>b8 _ _ (wp_seq_k fun f6 c3=>?_)
 refine nz 2 J rfl fun U J=>bB J G rfl (fun c4 G=>?_) fun c4 G=>?_
 ·refine nz 3 J rfl fun U J=>?_
  replace X:=(SH.nil_own (d:=k47) (e:=47) X).drop 1
  cases G
  refine wp_ret (hQ _ _ ?_)
  exact lv2 Tryz.results60 J rfl rfl ⟨none,0,0,rfl,X⟩
 refine wp_skip (c3 _ _ ?_)
 refine nz 1 J rfl fun U J=>wp_seq_k fun f7 c5=>ws fun f8 c6=>xk 1 J rfl fun U J=>?_
 obtain⟨f9,c7,G⟩:=bnd G
 refine x_c aZk J rfl (wZ c7 X (qz+0) hZ :) fun v U w hR J=>?_
 obtain⟨rfl,X⟩:=hR
 refine xk 4 J rfl fun U J=>iC (cs:=[.int .u64 0,.int .i64 0,.int .i64 0,str [],.float .f64 0]) aJ5 J X (fun c8 U w X J=>?_) rfl
 refine dH 0 cI J X rfl (fun  U w X J=>?_) rfl
 refine nk 2 J rfl fun U J=>c6 _ _ (aA fun b6 c9=>?_)
 have hb1:∀b4,vI b4=some y→∀a2 a3 a4 U w,FR 37 [] U [(6,.slice a2 a3 a4)]→SH r (own k47 47 a2 a3 a4 b4::L) w→b6 U w:=by
  intro b4 G a2 a3 a4 U w J X
  unfold vI at G
  refine c9 _ _ (c5 _ _ ?_)
  refine nz 3 J rfl fun U J=>?_
  cases G
  refine wp_ret (hQ _ _ ?_)
  exact lv2 Tryz.results60 J rfl rfl ⟨a2,a3,a4,rfl,X⟩
 obtain⟨d1,d2,G⟩:=bnd G
 have d3:∀Y,(Y)=d1→∀a5 a6 a7 U w,FR 37 [] U [(6,.slice a5 a6 a7)]→SH r (own k47 47 a5 a6 a7 Y::L) w→b6 U w:=by
  intro Y ht a5 a6 a7 U w J X
  subst ht
  replace G:tE Y=some y:=G
  unfold tE at G
  exact hb1 Y G a5 a6 a7 U w (J.sub _ rfl) X
 replace X:=(SH.nil_own (d:=k47) (e:=47) X).pk 2 |>.pk 2
 refine aD d2 (fun s U w=>∃a8 a9 b3 a1,FR 37 [] U [(4,.pointer b5),(6,.slice a8 a9 b3),(7,(pP a1)),(9,.bool s.2.2.2.2.2.2.2)]∧SH r (blk a1 47 [.int .u64 s.2.2.1,.int .i64 s.2.2.2.1,.int .i64 s.2.2.2.2.1,str s.2.2.2.2.2.1,.float .f64 s.2.2.2.2.2.2.1]::sB (obj151 Z wz) b5 s.1::own k47 47 a8 a9 b3 s.2.1::L) w) ⟨none,0,0,c8,J.sub _ rfl,X⟩ ?_
 intro g0 d4 d5 G d6 d7 U w hLab
 obtain⟨d8,b7,z,C,H,I,S,d9⟩:=d4
 replace G:rX d8 b7 z C H I S d9=some d5:=G
 unfold rX at G
 try dsimp only at hLab
 obtain⟨a8,a9,b3,a1,J,X⟩:=hLab
 refine wp_seq_k fun g1 e0=>nz 1 J rfl fun U J=>bB J G rfl (fun e1 G=>?_) fun e1 G=>?_
 ·refine wp_skip (e0 _ _ ?_)
  refine wp_seq_k fun g2 e2=>aA fun g3 e3=>aC (x_m J rfl fun U J=>?_)
  refine nF (ad:=⟨a1,0,none⟩) (cs:=[.int .u64 z,.int .i64 C,.int .i64 H,str I,.float .f64 S]) mG cI (fun j u h=>by rw [nC,Nat.zero_add]; exact X.cell 0 rfl j u h) J (fun U J=>?_) rfl
  refine gV (d:=k47) (e:=47) (ps:=#[(0,.agg #[.int .u64 z,.int .i64 C,.int .i64 H,str I,.float .f64 S])]) (cells:=[.int .u64 z,.int .i64 C,.int .i64 H,str I,.float .f64 S]) (xs:=[(⟨z,C,H,I,S⟩:S47)]) (fun w=>by kernel_rfl) rfl ⟨[.int .u64 z,.int .i64 C,.int .i64 H,str I,.float .f64 S],_,rfl,rfl,rfl⟩ J X (fun g4 U w X J=>?_) rfl
  obtain⟨e4,G⟩:=aB G
  have hr:=X.rd 0 rfl
  refine gG 3 aB8 eT J X hr.1 hr.2.1 e4 rfl (fun e5 e6 e7 U w X J=>?_) rfl
  refine x_m J rfl fun U J=>wpList_nil (e3 _ _ ?_)
  refine e2 _ _ (wp_seq_k fun g5 e8=>?_)
  refine ws fun g6 e9=>nF (ad:=⟨a1,0,none⟩) (cs:=[.int .u64 z,.int .i64 C,.int .i64 H,str I,.float .f64 S]) mG cI (fun j u h=>by rw [nC,Nat.zero_add]; exact X.cell 2 rfl j u h) J (fun U J=>?_) rfl
  refine wn (e9 _ _ ?_)
  refine aC (iC (cs:=[.int .u64 0,.int .i64 0,.int .i64 0,str [],.float .f64 0]) aJ5 J X (fun f2 U w X J=>?_) rfl)
  refine dH 0 cI J X rfl (fun  U w X J=>?_) rfl
  refine wn (e8 _ _ ?_)
  refine aC (x_m J rfl fun U J=>?_)
  replace X:=X.pk 4
  obtain⟨g7,f3,G⟩:=bnd G
  refine x_c aZk J rfl (wZ f3 X (qz+4) hZ :) fun v U w hR J=>?_
  obtain⟨rfl,X⟩:=hR
  refine xk 4 J rfl fun U J=>dH 1 cI J X rfl (fun  U w X J=>?_) rfl
  refine x_m J rfl fun U J=>wpList_nil ?_
  replace X:=X.drop 3 |>.drop 3
  cases G
  exact⟨_,d6 _ rfl,e5,e6,e7,f2,J.sub _ rfl,X⟩
 replace X:=X.drop 0 |>.drop 0
 cases G
 exact wp_exit (d3 b7 (d7 _ rfl) a8 a9 b3 U w (J.sub _ rfl) X)
end
theorem aT7 {i:Int} (h : -9223372036854775808≤i∧i≤9223372036854775807):IntKind.i64.wrap i=i:=by rw [IntKind.wrap_i64]; omega
theorem aMx {A:Option Addr} {sz q m k:Nat} (hq:1≤q) (h:k * q<m) :
    Value.slice (if (k * q+min q (m - k * q))=k * q then A else A.map (·.add (k * q * sz))) (k * q+min q (m - k * q) - k * q) (k * q+min q (m - k * q) - k * q)=pcv A sz q m k:=by
  rw [if_neg (by omega),Nat.add_sub_cancel_left]
  rfl
set_option maxRecDepth 100000 in
set_option maxHeartbeats 2000000 in
theorem yG {r w:World} {L:List HP} {A:Option Addr} {n c:Nat} {k:Int} (hk:1≤k) (hS:SH r L w) :
    Ret Tryz.prog 40 #[.slice A n c,.int .i64 k] w fun v w'=>∃ g1 g2,v=.func (.func 52) #[] #[.pointer (some ⟨g1,0,none⟩),.pointer (some ⟨g2,0,none⟩)]∧SH r (blk g1 22 [.slice A n c]::blk g2 3 [.int .i64 k]::L) w':=by
  refine enter Tryz.func40 rfl Tryz.ntmps40 [(0,_),(1,_)] rfl (by simp) ?_
  intro ac hA Qf hQ hQn
  refine wp_seq_k fun K1 hK1=>?_
  refine aC ?_
  refine aGn hA hS (fun g1 ac w hS hA=>?_) rfl rfl rfl rfl rfl rfl
  refine aGn hA hS (fun g2 ac w hS hA=>?_) rfl rfl rfl rfl rfl rfl
  refine kQ hA (fun ac hA=>?_) rfl rfl rfl rfl rfl
  refine wpList_nil ?_
  refine hK1 _ _ ?_
  refine wp_seq_k fun K2 hK2=>?_
  refine wp_seq_k fun K3 hK3=>?_
  refine aC ?_
  refine aKs Tryz.underlying3 (hS.cell 0 rfl 0 _ rfl) hA (fun ac hA=>?_) rfl rfl rfl rfl rfl rfl
  refine iY hA (rB rfl (hA.ev rfl) (hA.ev rfl)) (fun ac hA=>?_) rfl rfl rfl
  refine wpList_nil ?_
  refine hK3 _ _ ?_
  refine c_f (by simp; omega) hA ?_ rfl
  refine wp_skip ?_
  refine hK2 _ _ ?_
  refine wp_seq_k fun K4 hK4=>?_
  refine aC ?_
  refine iY hA (mF rfl (rU (vals:=#[]) hA rfl) (rU (vals:=#[.pointer (some ⟨g1,0,none⟩),.pointer (some ⟨g2,0,none⟩)]) hA rfl)) (fun ac hA=>?_) rfl rfl rfl
  refine kQ hA (fun ac hA=>?_) rfl rfl rfl rfl rfl
  refine wpList_nil ?_
  refine hK4 _ _ ?_
  refine wp_ret ?_
  refine hQ _ _ ?_
  refine lv Tryz.results40 hA rfl ?_
  exact⟨g1,g2,rfl,hS.pk 1⟩
theorem aV1:(Tryz.prog.info? 47).map (·.size)=some 5:=by kernel_rfl
set_option maxRecDepth 100000 in
set_option maxHeartbeats 4000000 in
theorem chunk_hands47:HandsS Tryz.prog 52 5:=by
  intro l b1 b2 A m c q J Jx hq1 hq2 hmc hc hmx hAs hJ hY w h0
  refine CallsIn.mono (R:=fun e w'=>∃ v,e=.returned v∧(J ((m+q - 1) / q) w'∨Jx w')) (callsIn_wide.2 ?_) fun e w' ⟨v,he,h⟩=>⟨⟨v,he⟩,h⟩
  refine enter Tryz.func52 rfl Tryz.ntmps52 [(0,.func (.yield l) #[] #[]),(1,.pointer (some ⟨b1,0,none⟩)),(2,.pointer (some ⟨b2,0,none⟩))] rfl (by simp) ?_
  intro ac hA Qf hQ hQn
  refine wp_seq_k fun K1 hK1=>?_
  refine aC ?_
  refine kQ hA (fun ac hA=>?_) rfl rfl rfl rfl rfl
  refine wpList_nil ?_
  refine hK1 _ _ ?_
  refine aA fun Kx hKx=>?_
  refine wp_loop (fun a w=>∃ k:Nat,FR 31 [] a [(4,.int .i64 (k * q:Nat)),(0,.func (.yield l) #[] #[]),(1,.pointer (some ⟨b1,0,none⟩)),(2,.pointer (some ⟨b2,0,none⟩))]∧J k w∧k≤(m+q - 1) / q)
    (fun a w=>match a.tmps.getD 4 undef with | .int _ i=>(m+q) - i.toNat | _=>0) ⟨0,by simpa using hA,h0,Nat.zero_le _⟩ ?_
  rintro a w ⟨k,hA,hJk,hkN⟩
  have h4:a.tmps.getD 4 undef=.int .i64 (k * q:Nat):=hA.ev (x:=.tmp 4) rfl
  obtain⟨hc1,hc2,hdr⟩:=hJ k w hJk
  refine wp_seq_k fun K2 hK2=>?_
  refine wp_seq_k fun K3 hK3=>?_
  refine aC ?_
  refine sP hA (fun ac hA=>?_) rfl rfl rfl rfl rfl
  refine aKs Tryz.underlying22 hc1 hA (fun ac hA=>?_) rfl rfl rfl rfl rfl rfl
  refine iY hA (aD3 Tryz.underlying22 rfl (hA.ev rfl)) (fun ac hA=>?_) rfl rfl rfl
  refine iY hA (rB rfl (hA.ev rfl) (hA.ev rfl)) (fun ac hA=>?_) rfl rfl rfl
  refine wpList_nil ?_
  refine hK3 _ _ ?_
  refine zJ hA rfl (fun hb=>?_) fun hb=>?_
  · have hlt:k * q<m:=by have:=of_decide_eq_true hb; omega
    have hkq:k * q≤4611686018427387904:=by omega
    have hkN':=(xW hq1).1 hlt
    refine wp_skip ?_
    refine hK2 _ _ ?_
    refine wp_seq_k fun K4 hK4=>?_
    refine aA fun Kb hKb=>?_
    refine wp_seq_k fun K5 hK5=>?_
    refine wp_region_any rfl (aIj [0,0,0,6,14,31,63] [] hA (by kernel_rfl) (by kernel_rfl) (by kernel_rfl) (by kernel_rfl) ?_)
    obtain⟨hd1,hd2,hdd⟩:=hJ k _ hdr
    refine⟨[(0,.int .i64 (q:Nat)),(1,.slice A m c),(2,.int .i64 (k * q:Nat)),(3,.slice (if c=((k * q:Nat):Int).toNat then A else A.map (·.add (((k * q:Nat):Int).toNat * 5))) (m - ((k * q:Nat):Int).toNat) (c - ((k * q:Nat):Int).toNat)),(4,.int .i64 ((m - ((k * q:Nat):Int).toNat:Nat):Int)),(5,.int .i64 (if ((m - ((k * q:Nat):Int).toNat:Nat):Int)<((q:Nat):Int) then ((m - ((k * q:Nat):Int).toNat:Nat):Int) else ((q:Nat):Int))),(6,.int .i64 (if ((m - ((k * q:Nat):Int).toNat:Nat):Int)<((q:Nat):Int) then ((m - ((k * q:Nat):Int).toNat:Nat):Int) else ((q:Nat):Int)))],?_⟩
    refine gM [0,1,2,3,4,5,6] (by kernel_rfl) ⟨?_,?_,?_,?_,?_,?_,?_,trivial⟩ ⟨by kernel_rfl,by kernel_rfl⟩ [(5,.int .i64 (min q (m - k * q):Nat)),(4,.int .i64 (k * q:Nat)),(0,.func (.yield l) #[] #[]),(1,.pointer (some ⟨b1,0,none⟩)),(2,.pointer (some ⟨b2,0,none⟩))] ?_ (fun ac hA=>?_)
    · exact pu rfl rfl [(2,.pointer (some ⟨b2,0,none⟩))] (fun ac hA=>cM Tryz.underlying3 hd2 hA rfl rfl rfl) rfl rfl
    · exact pu rfl rfl [(1,.pointer (some ⟨b1,0,none⟩))] (fun ac hA=>cM Tryz.underlying22 hd1 hA rfl rfl rfl) rfl rfl
    · exact pu rfl rfl [(4,.int .i64 (k * q:Nat))] (fun ac hA=>nV rfl (hA.ev rfl)) rfl rfl
    · exact pu rfl rfl [(14,.slice A m c),(15,.int .i64 (k * q:Nat))] (fun ac hA=>kJ Tryz.underlying22 aV1 rfl (hA.ev rfl) (hA.ev rfl) (by omega) (by omega)) rfl rfl
    · exact pu rfl rfl [(16,.slice (if c=((k * q:Nat):Int).toNat then A else A.map (·.add (((k * q:Nat):Int).toNat * 5))) (m - ((k * q:Nat):Int).toNat) (c - ((k * q:Nat):Int).toNat))] (fun ac hA=>aD3 Tryz.underlying22 rfl (hA.ev rfl)) rfl rfl
    · exact pu rfl rfl [(13,.int .i64 (q:Nat)),(17,.int .i64 ((m - ((k * q:Nat):Int).toNat:Nat):Int))] (fun ac hA=>aIf rfl (hA.ev rfl) (hA.ev rfl)) rfl rfl
    · exact pu rfl rfl [(18,.int .i64 (if ((m - ((k * q:Nat):Int).toNat:Nat):Int)<((q:Nat):Int) then ((m - ((k * q:Nat):Int).toNat:Nat):Int) else ((q:Nat):Int)))] (fun ac hA=>wG rfl (hA.ev rfl)) rfl rfl
    · have e:(if ((m - ((k * q:Nat):Int).toNat:Nat):Int)<((q:Nat):Int) then ((m - ((k * q:Nat):Int).toNat:Nat):Int) else ((q:Nat):Int))=(min q (m - k * q):Nat):=by
        rw [show ((k * q:Nat):Int).toNat=k * q from by omega]
        split <;> omega
      rw [e]
      rfl
    refine hK5 _ _ ?_
    refine wp_seq_k fun K6 hK6=>?_
    refine (wpIn_wide (n:=6)).1 (wpIn_region_list ?_)
    refine lF hA (nV rfl (hA.ev rfl)) (fun ac hA=>?_) rfl rfl rfl rfl
    refine lF hA (cM Tryz.underlying22 hd1 hA rfl rfl rfl) (fun ac hA=>?_) rfl rfl rfl rfl
    refine lF hA (nV rfl (hA.ev rfl)) (fun ac hA=>?_) rfl rfl rfl rfl
    refine lF hA (nV rfl (hA.ev rfl)) (fun ac hA=>?_) rfl rfl rfl rfl
    refine lF hA (nV rfl (hA.ev rfl)) (fun ac hA=>?_) rfl rfl rfl rfl
    refine lF hA (iR rfl (hA.ev rfl) (hA.ev rfl)) (fun ac hA=>?_) rfl rfl rfl rfl
    refine lF hA (nV rfl (hA.ev rfl)) (fun ac hA=>?_) rfl rfl rfl rfl
    refine lF hA (nV rfl (hA.ev rfl)) (fun ac hA=>?_) rfl rfl rfl rfl
    refine lF hA (iR rfl (hA.ev rfl) (hA.ev rfl)) (fun ac hA=>?_) rfl rfl rfl rfl
    have ew:IntKind.i64.wrap (((k * q:Nat):Int)+((min q (m - k * q):Nat):Int))=((k * q+min q (m - k * q):Nat):Int):=by
      rw [show ((k * q:Nat):Int)+((min q (m - k * q):Nat):Int)=((k * q+min q (m - k * q):Nat):Int) from by omega]
      exact aT7 (by omega)
    rw [ew] at hA
    refine lF (v:=pcv A 5 q m k) hA ?_ (fun ac hA=>?_) rfl rfl rfl rfl
    · rw [← aMx hq1 hlt]
      refine aF8 ?_ (zE (sz:=5) Tryz.underlying22 aV1 rfl (hA.ev rfl) (hA.ev rfl) (hA.ev rfl) (hA.ev rfl) ⟨by omega,by omega,by omega,by omega⟩)
      simp only [Int.toNat_natCast]
    refine aG2 hA (hY k _ hdr hlt) (fun e w' h=>h.elim fun b h=>⟨b,h.1⟩) (fun b ac w3 hR hA=>?_) rfl rfl rfl rfl rfl rfl
    refine lF hA (aCp rfl (hA.ev rfl)) (fun ac hA=>?_) rfl rfl rfl rfl
    refine wpListIn_nil ?_
    refine hK6 _ _ ?_
    obtain⟨b',he,hR⟩:=hR
    cases he
    cases b with
    | false =>
      refine c_t (b := !false) rfl hA ?_ rfl
      refine wp_ret ?_
      refine hQ _ _ ?_
      exact lv0 Tryz.results52 hA (.inr hR)
    | true =>
    refine c_f (b := !true) rfl hA ?_ rfl
    refine wp_skip ?_
    refine hKb _ _ ?_
    refine hK4 _ _ ?_
    have hJ3:J (k+1) w3:=hR
    obtain⟨_,hc3,_⟩:=hJ _ _ hJ3
    refine aC ?_
    refine sP hA (fun ac hA=>?_) rfl rfl rfl rfl rfl
    refine aKs Tryz.underlying3 hc3 hA (fun ac hA=>?_) rfl rfl rfl rfl rfl rfl
    refine iY hA (iR rfl (hA.ev rfl) (hA.ev rfl)) (fun ac hA=>?_) rfl rfl rfl
    refine kQ hA (fun ac hA=>?_) rfl rfl rfl rfl rfl
    refine wpList_nil ?_
    have ew2:IntKind.i64.wrap (((k * q:Nat):Int)+((q:Nat):Int))=(((k+1) * q:Nat):Int):=by
      rw [show ((k * q:Nat):Int)+((q:Nat):Int)=(((k+1) * q:Nat):Int) from by rw [Nat.add_mul]; omega]
      exact aT7 (by rw [Nat.add_mul]; omega)
    rw [ew2] at hA
    refine⟨⟨k+1,hA.sub _ rfl,hJ3,hkN'⟩,?_⟩
    rw [h4,show ac.tmps.getD 4 undef=.int .i64 ((k+1) * q:Nat) from hA.ev (x:=.tmp 4) rfl]
    simp only [Int.toNat_natCast,Nat.add_mul]
    omega
  · have hge:¬ k * q<m:=by have:=of_decide_eq_false hb; omega
    have hkN':¬ k<(m+q - 1) / q:=fun h=>hge ((xW hq1).2 h)
    refine wp_exit ?_
    refine hKx _ _ ?_
    refine hQn _ _ ?_
    refine aB1 Tryz.results52 hA ?_
    rw [show (m+q - 1) / q=k from by omega]
    exact .inl hJk
set_option maxRecDepth 100000 in
set_option maxHeartbeats 2000000 in
theorem aD9 {r w:World} {L:List HP} {A:Option Addr} {n c:Nat} {k:Int} (hk:1≤k) (hS:SH r L w) :
    Ret Tryz.prog 43 #[.slice A n c,.int .i64 k] w fun v w'=>∃ g1 g2,v=.func (.func 59) #[] #[.pointer (some ⟨g1,0,none⟩),.pointer (some ⟨g2,0,none⟩)]∧SH r (blk g1 37 [.slice A n c]::blk g2 3 [.int .i64 k]::L) w':=by
  refine enter Tryz.func43 rfl Tryz.ntmps43 [(0,_),(1,_)] rfl (by simp) ?_
  intro ac hA Qf hQ hQn
  refine wp_seq_k fun K1 hK1=>?_
  refine aC ?_
  refine aGn hA hS (fun g1 ac w hS hA=>?_) rfl rfl rfl rfl rfl rfl
  refine aGn hA hS (fun g2 ac w hS hA=>?_) rfl rfl rfl rfl rfl rfl
  refine kQ hA (fun ac hA=>?_) rfl rfl rfl rfl rfl
  refine wpList_nil ?_
  refine hK1 _ _ ?_
  refine wp_seq_k fun K2 hK2=>?_
  refine wp_seq_k fun K3 hK3=>?_
  refine aC ?_
  refine aKs Tryz.underlying3 (hS.cell 0 rfl 0 _ rfl) hA (fun ac hA=>?_) rfl rfl rfl rfl rfl rfl
  refine iY hA (rB rfl (hA.ev rfl) (hA.ev rfl)) (fun ac hA=>?_) rfl rfl rfl
  refine wpList_nil ?_
  refine hK3 _ _ ?_
  refine c_f (by simp; omega) hA ?_ rfl
  refine wp_skip ?_
  refine hK2 _ _ ?_
  refine wp_seq_k fun K4 hK4=>?_
  refine aC ?_
  refine iY hA (mF rfl (rU (vals:=#[]) hA rfl) (rU (vals:=#[.pointer (some ⟨g1,0,none⟩),.pointer (some ⟨g2,0,none⟩)]) hA rfl)) (fun ac hA=>?_) rfl rfl rfl
  refine kQ hA (fun ac hA=>?_) rfl rfl rfl rfl rfl
  refine wpList_nil ?_
  refine hK4 _ _ ?_
  refine wp_ret ?_
  refine hQ _ _ ?_
  refine lv Tryz.results43 hA rfl ?_
  exact⟨g1,g2,rfl,hS.pk 1⟩
theorem bAj:(Tryz.prog.info? 9).map (·.size)=some 1:=by kernel_rfl
set_option maxRecDepth 100000 in
set_option maxHeartbeats 4000000 in
theorem aIp:HandsS Tryz.prog 59 1:=by
  intro l b1 b2 A m c q J Jx hq1 hq2 hmc hc hmx hAs hJ hY w h0
  refine CallsIn.mono (R:=fun e w'=>∃ v,e=.returned v∧(J ((m+q - 1) / q) w'∨Jx w')) (callsIn_wide.2 ?_) fun e w' ⟨v,he,h⟩=>⟨⟨v,he⟩,h⟩
  refine enter Tryz.func59 rfl Tryz.ntmps59 [(0,.func (.yield l) #[] #[]),(1,.pointer (some ⟨b1,0,none⟩)),(2,.pointer (some ⟨b2,0,none⟩))] rfl (by simp) ?_
  intro ac hA Qf hQ hQn
  refine wp_seq_k fun K1 hK1=>?_
  refine aC ?_
  refine kQ hA (fun ac hA=>?_) rfl rfl rfl rfl rfl
  refine wpList_nil ?_
  refine hK1 _ _ ?_
  refine aA fun Kx hKx=>?_
  refine wp_loop (fun a w=>∃ k:Nat,FR 31 [] a [(4,.int .i64 (k * q:Nat)),(0,.func (.yield l) #[] #[]),(1,.pointer (some ⟨b1,0,none⟩)),(2,.pointer (some ⟨b2,0,none⟩))]∧J k w∧k≤(m+q - 1) / q)
    (fun a w=>match a.tmps.getD 4 undef with | .int _ i=>(m+q) - i.toNat | _=>0) ⟨0,by simpa using hA,h0,Nat.zero_le _⟩ ?_
  rintro a w ⟨k,hA,hJk,hkN⟩
  have h4:a.tmps.getD 4 undef=.int .i64 (k * q:Nat):=hA.ev (x:=.tmp 4) rfl
  obtain⟨hc1,hc2,hdr⟩:=hJ k w hJk
  refine wp_seq_k fun K2 hK2=>?_
  refine wp_seq_k fun K3 hK3=>?_
  refine aC ?_
  refine sP hA (fun ac hA=>?_) rfl rfl rfl rfl rfl
  refine aKs Tryz.underlying37 hc1 hA (fun ac hA=>?_) rfl rfl rfl rfl rfl rfl
  refine iY hA (aD3 Tryz.underlying37 rfl (hA.ev rfl)) (fun ac hA=>?_) rfl rfl rfl
  refine iY hA (rB rfl (hA.ev rfl) (hA.ev rfl)) (fun ac hA=>?_) rfl rfl rfl
  refine wpList_nil ?_
  refine hK3 _ _ ?_
  refine zJ hA rfl (fun hb=>?_) fun hb=>?_
  · have hlt:k * q<m:=by have:=of_decide_eq_true hb; omega
    have hkq:k * q≤4611686018427387904:=by omega
    have hkN':=(xW hq1).1 hlt
    refine wp_skip ?_
    refine hK2 _ _ ?_
    refine wp_seq_k fun K4 hK4=>?_
    refine aA fun Kb hKb=>?_
    refine wp_seq_k fun K5 hK5=>?_
    refine wp_region_any rfl (aIj [0,0,0,6,14,31,63] [] hA (by kernel_rfl) (by kernel_rfl) (by kernel_rfl) (by kernel_rfl) ?_)
    obtain⟨hd1,hd2,hdd⟩:=hJ k _ hdr
    refine⟨[(0,.int .i64 (q:Nat)),(1,.slice A m c),(2,.int .i64 (k * q:Nat)),(3,.slice (if c=((k * q:Nat):Int).toNat then A else A.map (·.add (((k * q:Nat):Int).toNat * 1))) (m - ((k * q:Nat):Int).toNat) (c - ((k * q:Nat):Int).toNat)),(4,.int .i64 ((m - ((k * q:Nat):Int).toNat:Nat):Int)),(5,.int .i64 (if ((m - ((k * q:Nat):Int).toNat:Nat):Int)<((q:Nat):Int) then ((m - ((k * q:Nat):Int).toNat:Nat):Int) else ((q:Nat):Int))),(6,.int .i64 (if ((m - ((k * q:Nat):Int).toNat:Nat):Int)<((q:Nat):Int) then ((m - ((k * q:Nat):Int).toNat:Nat):Int) else ((q:Nat):Int)))],?_⟩
    refine gM [0,1,2,3,4,5,6] (by kernel_rfl) ⟨?_,?_,?_,?_,?_,?_,?_,trivial⟩ ⟨by kernel_rfl,by kernel_rfl⟩ [(5,.int .i64 (min q (m - k * q):Nat)),(4,.int .i64 (k * q:Nat)),(0,.func (.yield l) #[] #[]),(1,.pointer (some ⟨b1,0,none⟩)),(2,.pointer (some ⟨b2,0,none⟩))] ?_ (fun ac hA=>?_)
    · exact pu rfl rfl [(2,.pointer (some ⟨b2,0,none⟩))] (fun ac hA=>cM Tryz.underlying3 hd2 hA rfl rfl rfl) rfl rfl
    · exact pu rfl rfl [(1,.pointer (some ⟨b1,0,none⟩))] (fun ac hA=>cM Tryz.underlying37 hd1 hA rfl rfl rfl) rfl rfl
    · exact pu rfl rfl [(4,.int .i64 (k * q:Nat))] (fun ac hA=>nV rfl (hA.ev rfl)) rfl rfl
    · exact pu rfl rfl [(14,.slice A m c),(15,.int .i64 (k * q:Nat))] (fun ac hA=>kJ Tryz.underlying37 bAj rfl (hA.ev rfl) (hA.ev rfl) (by omega) (by omega)) rfl rfl
    · exact pu rfl rfl [(16,.slice (if c=((k * q:Nat):Int).toNat then A else A.map (·.add (((k * q:Nat):Int).toNat * 1))) (m - ((k * q:Nat):Int).toNat) (c - ((k * q:Nat):Int).toNat))] (fun ac hA=>aD3 Tryz.underlying37 rfl (hA.ev rfl)) rfl rfl
    · exact pu rfl rfl [(13,.int .i64 (q:Nat)),(17,.int .i64 ((m - ((k * q:Nat):Int).toNat:Nat):Int))] (fun ac hA=>aIf rfl (hA.ev rfl) (hA.ev rfl)) rfl rfl
    · exact pu rfl rfl [(18,.int .i64 (if ((m - ((k * q:Nat):Int).toNat:Nat):Int)<((q:Nat):Int) then ((m - ((k * q:Nat):Int).toNat:Nat):Int) else ((q:Nat):Int)))] (fun ac hA=>wG rfl (hA.ev rfl)) rfl rfl
    · have e:(if ((m - ((k * q:Nat):Int).toNat:Nat):Int)<((q:Nat):Int) then ((m - ((k * q:Nat):Int).toNat:Nat):Int) else ((q:Nat):Int))=(min q (m - k * q):Nat):=by
        rw [show ((k * q:Nat):Int).toNat=k * q from by omega]
        split <;> omega
      rw [e]
      rfl
    refine hK5 _ _ ?_
    refine wp_seq_k fun K6 hK6=>?_
    refine (wpIn_wide (n:=6)).1 (wpIn_region_list ?_)
    refine lF hA (nV rfl (hA.ev rfl)) (fun ac hA=>?_) rfl rfl rfl rfl
    refine lF hA (cM Tryz.underlying37 hd1 hA rfl rfl rfl) (fun ac hA=>?_) rfl rfl rfl rfl
    refine lF hA (nV rfl (hA.ev rfl)) (fun ac hA=>?_) rfl rfl rfl rfl
    refine lF hA (nV rfl (hA.ev rfl)) (fun ac hA=>?_) rfl rfl rfl rfl
    refine lF hA (nV rfl (hA.ev rfl)) (fun ac hA=>?_) rfl rfl rfl rfl
    refine lF hA (iR rfl (hA.ev rfl) (hA.ev rfl)) (fun ac hA=>?_) rfl rfl rfl rfl
    refine lF hA (nV rfl (hA.ev rfl)) (fun ac hA=>?_) rfl rfl rfl rfl
    refine lF hA (nV rfl (hA.ev rfl)) (fun ac hA=>?_) rfl rfl rfl rfl
    refine lF hA (iR rfl (hA.ev rfl) (hA.ev rfl)) (fun ac hA=>?_) rfl rfl rfl rfl
    have ew:IntKind.i64.wrap (((k * q:Nat):Int)+((min q (m - k * q):Nat):Int))=((k * q+min q (m - k * q):Nat):Int):=by
      rw [show ((k * q:Nat):Int)+((min q (m - k * q):Nat):Int)=((k * q+min q (m - k * q):Nat):Int) from by omega]
      exact aT7 (by omega)
    rw [ew] at hA
    refine lF (v:=pcv A 1 q m k) hA ?_ (fun ac hA=>?_) rfl rfl rfl rfl
    · rw [← aMx hq1 hlt]
      refine aF8 ?_ (zE (sz:=1) Tryz.underlying37 bAj rfl (hA.ev rfl) (hA.ev rfl) (hA.ev rfl) (hA.ev rfl) ⟨by omega,by omega,by omega,by omega⟩)
      simp only [Int.toNat_natCast]
    refine aG2 hA (hY k _ hdr hlt) (fun e w' h=>h.elim fun b h=>⟨b,h.1⟩) (fun b ac w3 hR hA=>?_) rfl rfl rfl rfl rfl rfl
    refine lF hA (aCp rfl (hA.ev rfl)) (fun ac hA=>?_) rfl rfl rfl rfl
    refine wpListIn_nil ?_
    refine hK6 _ _ ?_
    obtain⟨b',he,hR⟩:=hR
    cases he
    cases b with
    | false =>
      refine c_t (b := !false) rfl hA ?_ rfl
      refine wp_ret ?_
      refine hQ _ _ ?_
      exact lv0 Tryz.results59 hA (.inr hR)
    | true =>
    refine c_f (b := !true) rfl hA ?_ rfl
    refine wp_skip ?_
    refine hKb _ _ ?_
    refine hK4 _ _ ?_
    have hJ3:J (k+1) w3:=hR
    obtain⟨_,hc3,_⟩:=hJ _ _ hJ3
    refine aC ?_
    refine sP hA (fun ac hA=>?_) rfl rfl rfl rfl rfl
    refine aKs Tryz.underlying3 hc3 hA (fun ac hA=>?_) rfl rfl rfl rfl rfl rfl
    refine iY hA (iR rfl (hA.ev rfl) (hA.ev rfl)) (fun ac hA=>?_) rfl rfl rfl
    refine kQ hA (fun ac hA=>?_) rfl rfl rfl rfl rfl
    refine wpList_nil ?_
    have ew2:IntKind.i64.wrap (((k * q:Nat):Int)+((q:Nat):Int))=(((k+1) * q:Nat):Int):=by
      rw [show ((k * q:Nat):Int)+((q:Nat):Int)=(((k+1) * q:Nat):Int) from by rw [Nat.add_mul]; omega]
      exact aT7 (by rw [Nat.add_mul]; omega)
    rw [ew2] at hA
    refine⟨⟨k+1,hA.sub _ rfl,hJ3,hkN'⟩,?_⟩
    rw [h4,show ac.tmps.getD 4 undef=.int .i64 ((k+1) * q:Nat) from hA.ev (x:=.tmp 4) rfl]
    simp only [Int.toNat_natCast,Nat.add_mul]
    omega
  · have hge:¬ k * q<m:=by have:=of_decide_eq_false hb; omega
    have hkN':¬ k<(m+q - 1) / q:=fun h=>hge ((xW hq1).2 h)
    refine wp_exit ?_
    refine hKx _ _ ?_
    refine hQn _ _ ?_
    refine aB1 Tryz.results59 hA ?_
    rw [show (m+q - 1) / q=k from by omega]
    exact .inl hJk
noncomputable section
set_option linter.unusedSimpArgs false
def lA (a0:(List UInt8)) (a1:(List UInt8)):Option (Bool) :=
  if (decide ((a1.length:Int)≤(a0.length:Int)))=true then ((oO a0 0 (a1.length:Int)).bind fun h=>(some (h==a1))) else (some false)
def mE (a0:(List UInt8)) (a1:(List UInt8)):Option (Bool) :=
  (lA a0 a1).bind fun h=>(some h)
end
section
variable {r:World} {L:List HP} {w:World} {Z:Nat→Prop} {wz:World}
theorem xV {a0 a1 y} (G:lA a0 a1=some y) (X:SH r (L) w) :
  Ret Tryz.prog 47 #[str a0,str a1] w fun v w'=>v=.bool y∧SH r (L) w':=by
 refine enter Tryz.func47 rfl Tryz.ntmps47 [(0,_),(1,_)] rfl (by simp) ?_
 intro U J Qf hQ hQn
 unfold lA at G
 refine nz 1 J rfl fun U J=>ws fun H z=>xk 1 J rfl fun U J=>x_v J (aBp uu9 rfl (J.ev rfl)) rfl fun U J=>x_m J rfl fun U J=>x_v J (aBp uu9 rfl (J.ev rfl)) rfl fun U J=>xk 2 J rfl fun U J=>bcG G (fun h G=>?_) fun h G=>?_
 ·refine xg 2 h J rfl rfl fun U J=>aO h J ?_ rfl
  refine x_v J (aBp uu9 rfl (J.ev rfl)) rfl fun U J=>aO h J ?_ rfl
  obtain⟨I,C,G⟩:=bnd G
  refine aP1 uu9 C J (fun U J=>?_) rfl
  refine xg 1 h J rfl rfl fun U J=>aO h J ?_ rfl
  refine x_v J (aRp rfl (J.ev rfl) (J.ev rfl)) rfl fun U J=>ng 2 h J rfl rfl fun U J=>?_
  cases G
  refine z _ _ (wp_ret ?_)
  refine hQ _ _ (lv Tryz.results47 J rfl ?_)
  exact⟨rfl,X⟩
 refine ng 8 h J rfl rfl fun U J=>?_
 cases G
 refine z _ _ (wp_ret ?_)
 refine hQ _ _ (lv Tryz.results47 J rfl ?_)
 exact⟨rfl,X⟩
theorem aAy {a0 a1 y} (G:mE a0 a1=some y) (X:SH r (L) w) :
  Ret Tryz.prog 32 #[str a0,str a1] w fun v w'=>v=.bool y∧SH r (L) w':=by
 refine enter Tryz.func32 rfl Tryz.ntmps32 [(0,_),(1,_)] rfl (by simp) ?_
 intro U J Qf hQ hQn
 unfold mE at G
 refine nz 1 J rfl fun U J=>ws fun C h=>xk 2 J rfl fun U J=>?_
 obtain⟨H,z,G⟩:=bnd G
 refine x_c bBn J rfl (xV z X :) fun v U w hR J=>?_
 obtain⟨rfl,X⟩:=hR
 refine x_m J rfl fun U J=>wn (h _ _ ?_)
 cases G
 refine wp_ret (hQ _ _ ?_)
 exact lv Tryz.results32 J rfl ⟨rfl,X⟩
end
end Go.Proofs.YtnefioccdkmegaaGreatDoor.M
namespace Go.Proofs
open Go.Shelf
def Tryz.itoaL_ren:Go.Shelf.Ren:=⟨fun | 171=>53 | 243=>65 | 246=>83 | 283=>106 | 284=>107 | 285=>108 | 286=>109 | 129=>126 | 317=>125 | 318=>127 | 319=>128 | 320=>129 | 337=>137 | 338=>138 | n=>n,fun | 3=>3 | 9=>9 | 2=>2 | 4=>4 | 171=>165 | 0=>0 | 53=>44 | 37=>32 | 5=>5 | 173=>168 | 212=>182 | 51=>146 | 20=>20 | 213=>183 | 46=>93 | 232=>198 | 233=>199 | n=>n,fun | 17=>2 | 18=>3 | 19=>4 | n=>n⟩
theorem Tryz.itoaL:Go.Proofs.LaysM.n171 Tryz.prog Tryz.itoaL_ren:={
  mixed:=by kernel_rfl
  f129:=Tryz.func126.trans (congrArg some (by kernel_rfl))
  f171:=Tryz.func53.trans (congrArg some (by kernel_rfl))
  f243:=Tryz.func65.trans (congrArg some (by kernel_rfl))
  f246:=Tryz.func83.trans (congrArg some (by kernel_rfl))
  f283:=Tryz.func106.trans (congrArg some (by kernel_rfl))
  f284:=Tryz.func107.trans (congrArg some (by kernel_rfl))
  f285:=Tryz.func108.trans (congrArg some (by kernel_rfl))
  f286:=Tryz.func109.trans (congrArg some (by kernel_rfl))
  f317:=Tryz.func125.trans (congrArg some (by kernel_rfl))
  f318:=Tryz.func127.trans (congrArg some (by kernel_rfl))
  f319:=Tryz.func128.trans (congrArg some (by kernel_rfl))
  f320:=Tryz.func129.trans (congrArg some (by kernel_rfl))
  f337:=Tryz.func137.trans (congrArg some (by kernel_rfl))
  f338:=Tryz.func138.trans (congrArg some (by kernel_rfl))
  t0:=Tryz.underlying0
  a0:=Tryz.isAgg0
  z0:=Tryz.sizeOf0
  v0:=Tryz.zeroValue0
  t2:=Tryz.underlying2
  a2:=Tryz.isAgg2
  z2:=Tryz.sizeOf2
  v2:=Tryz.zeroValue2
  t3:=Tryz.underlying3
  a3:=Tryz.isAgg3
  z3:=Tryz.sizeOf3
  v3:=Tryz.zeroValue3
  t4:=Tryz.underlying4
  a4:=Tryz.isAgg4
  z4:=Tryz.sizeOf4
  v4:=Tryz.zeroValue4
  t5:=Tryz.underlying5
  a5:=Tryz.isAgg5
  z5:=Tryz.sizeOf5
  v5:=Tryz.zeroValue5
  t9:=Tryz.underlying9
  a9:=Tryz.isAgg9
  z9:=Tryz.sizeOf9
  v9:=Tryz.zeroValue9
  t20:=Tryz.underlying20
  a20:=Tryz.isAgg20
  z20:=Tryz.sizeOf20
  v20:=Tryz.zeroValue20
  t37:=Tryz.underlying32
  a37:=Tryz.isAgg32
  z37:=Tryz.sizeOf32
  v37:=Tryz.zeroValue32
  t46:=Tryz.underlying93
  a46:=Tryz.isAgg93
  z46:=Tryz.sizeOf93
  v46:=Tryz.zeroValue93
  t51:=Tryz.underlying146
  a51:=Tryz.isAgg146
  z51:=Tryz.sizeOf146
  v51:=Tryz.zeroValue146
  t53:=Tryz.underlying44
  a53:=Tryz.isAgg44
  z53:=Tryz.sizeOf44
  v53:=Tryz.zeroValue44
  t171:=Tryz.underlying165
  a171:=Tryz.isAgg165
  z171:=Tryz.sizeOf165
  v171:=Tryz.zeroValue165
  t173:=Tryz.underlying168
  a173:=Tryz.isAgg168
  z173:=Tryz.sizeOf168
  v173:=Tryz.zeroValue168
  t212:=Tryz.underlying182
  a212:=Tryz.isAgg182
  z212:=Tryz.sizeOf182
  v212:=Tryz.zeroValue182
  t213:=Tryz.underlying183
  a213:=Tryz.isAgg183
  z213:=Tryz.sizeOf183
  t232:=Tryz.underlying198
  a232:=Tryz.isAgg198
  z232:=Tryz.sizeOf198
  v232:=Tryz.zeroValue198
  t233:=Tryz.underlying199
  a233:=Tryz.isAgg199
  z233:=Tryz.sizeOf199
  v233:=Tryz.zeroValue199
  g17:=by kernel_rfl
  g18:=by kernel_rfl
  g19:=by kernel_rfl
  i0:=by kernel_rfl
  i2:=by kernel_rfl
  i3:=by kernel_rfl
  i4:=by kernel_rfl
  i5:=by kernel_rfl
  i9:=by kernel_rfl
  i20:=by kernel_rfl
  i37:=by kernel_rfl
  i46:=by kernel_rfl
  i51:=by kernel_rfl
  i53:=by kernel_rfl
  i171:=by kernel_rfl
  i173:=by kernel_rfl
  i212:=by kernel_rfl
  i232:=by kernel_rfl
  i233:=by kernel_rfl
  m17:=by kernel_rfl
  m18:=by kernel_rfl
  m19:=by kernel_rfl }
end Go.Proofs
namespace Go.Proofs.YtnefioccdkmegaaGreatDoor.M
open Go Go.RowKit Go.Proofs.YtnefioccdkmegaaGreatDoor.E
set_option linter.unusedVariables false
noncomputable section
set_option linter.unusedSimpArgs false
def strconv_Itoa (a0:Int):Option ((List UInt8)) :=
  chk (0≤a0∧a0≤4294967295) (some (Lib.itoa a0))
end
set_option maxRecDepth 100000
set_option maxHeartbeats 4000000
set_option linter.unusedSimpArgs false
section
variable {r:World} {L:List HP} {w:World} {Z:Nat→Prop} {wz:World}
theorem aGg {a0 y} (G:strconv_Itoa a0=some y) (X:SH r (L) w) (qz:Nat) (hZ:L[qz]?=some (zone Z wz)) (hG2:Gb Z wz 2 .u64 cO) :
  Ret Tryz.prog 53 #[.int .i64 a0] w fun v w'=>v=str y∧SH r (L) w':=by
 obtain⟨hc,G⟩:=aB G
 cases G
 refine Calls.mono (Any.strconv_Itoa Tryz.itoaL a0 (by omega) (by omega) w (Gb.tab ((show cO=Lib.pow10Tab from by decide)▸hG2) X qz hZ (by kernel_rfl))) ?_
 rintro e w' ⟨rfl,k,os,rfl⟩
 exact⟨_,rfl,rfl,(X.drewN k).grow os⟩
end
noncomputable section
set_option linter.unusedSimpArgs false
def eK (a0:(List (S64×Hd))) (k0:Nat) (a1:Int) (a2:(List (S64×Hd))):Option ((List (S64×Hd))) :=
  (oO a0 a1 (a0.length:Int)).bind fun C=>(if ((a2.length:Int)==0)=true then (some a0) else (if (a1==(a0.length:Int))=true then (chk (a0.length+a2.length≤140737488355328 / 48) (some (a0++a2))) else (ltt (IntKind.i64.wrap ((a0.length:Int)+(a2.length:Int))) fun h=>(if (decide (((k0:Nat):Int)<h))=true then ((oO a0 0 a1).bind fun X=>(ltt (IntKind.i64.wrap (h - a1)) fun J=>(chk (0<J∧k0<a1.toNat+J.toNat∧(a1.toNat+J.toNat) * 48≤140737488355328) (ltt (X++List.replicate J.toNat (((⟨[],[],0⟩:S64),none,0,0):S64×Hd)) fun G=>(chk (0≤a1∧a1<(G.length:Int)) (chk (0<(a2.take (min a2.length (G.length - a1.toNat))).length∧(0+a1.toNat)+(a2.take (min a2.length (G.length - a1.toNat))).length≤G.length) (ltt (G.take (0+a1.toNat)++a2.take (min a2.length (G.length - a1.toNat))++G.drop ((0+a1.toNat)+(a2.take (min a2.length (G.length - a1.toNat))).length)) fun H=>(ltt (IntKind.i64.wrap (a1+(a2.length:Int))) fun z=>(chk (0≤z∧z<(H.length:Int)) (chk (0<(C.take (min C.length (H.length - z.toNat))).length∧(0+z.toNat)+(C.take (min C.length (H.length - z.toNat))).length≤H.length) (ltt (H.take (0+z.toNat)++C.take (min C.length (H.length - z.toNat))++H.drop ((0+z.toNat)+(C.take (min C.length (H.length - z.toNat))).length)) fun Y=>(some Y)))))))))))) else (chk (0<k0) (chk (0≤h∧h≤(k0:Int)) (ltt (IntKind.i64.wrap (a1+(a2.length:Int))) fun I=>(chk (0≤I∧I<((h.toNat:Nat):Int)∧h.toNat≤k0) (chk (0<a2.length∧0<k0) (chk (0≤I∧I<((h.toNat:Nat):Int)∧h.toNat≤k0) (chk (0≤a1∧a1<((h.toNat:Nat):Int)∧h.toNat≤k0) ((rdo (a0.map some++List.replicate (k0 - a0.length) none) (0+a1.toNat) (min (h.toNat - a1.toNat) (h.toNat - I.toNat))).bind fun S=>(chk (0<S.length∧(0+I.toNat)+S.length≤k0) (ltt ((a0.map some++List.replicate (k0 - a0.length) none).take (0+I.toNat)++S.map some++(a0.map some++List.replicate (k0 - a0.length) none).drop ((0+I.toNat)+S.length)) fun U=>(chk (0≤a1∧a1<((h.toNat:Nat):Int)∧h.toNat≤k0) (chk (0<(a2.take (min a2.length (h.toNat - a1.toNat))).length∧(0+a1.toNat)+(a2.take (min a2.length (h.toNat - a1.toNat))).length≤k0) (ltt (U.take (0+a1.toNat)++(a2.take (min a2.length (h.toNat - a1.toNat))).map some++U.drop ((0+a1.toNat)+(a2.take (min a2.length (h.toNat - a1.toNat))).length)) fun a3=>((rdo a3 0 h.toNat).bind fun a4=>(some a4)))))))))))))))))))
def eM (a0:(List (S64×Hd))) (k0:Nat) (a1:Int) (a2:Int):Option ((List (S64×Hd))) :=
  chk (0≤a1∧a1≤a2∧a2≤(a0.length:Int)∧(a0.length:Int)≤(a0.length:Int)) (if (a1==a2)=true then (some a0) else (chk (0<k0) (chk (0≤a1∧a1≤(k0:Int)) (chk (0≤a2∧a2≤((a0.length:Nat):Int)∧a0.length≤k0) ((rdo (a0.map some++List.replicate (k0 - a0.length) none) (0+a2.toNat) (a0.length - a2.toNat)).bind fun z=>(chk (a1.toNat+(a0.length - a2.toNat)≤k0) (ltt ((a0.map some++List.replicate (k0 - a0.length) none).take a1.toNat++z.map some++(a0.map some++List.replicate (k0 - a0.length) none).drop (a1.toNat+(a0.length - a2.toNat))) fun h=>(chk (0≤(((a1.toNat+(a0.length - a2.toNat)):Nat):Int)∧(((a1.toNat+(a0.length - a2.toNat)):Nat):Int)<(a0.length:Int)∧(a0.length:Int)≤((k0:Nat):Int)) (chk (0<((a0.length:Int).toNat - (((a1.toNat+(a0.length - a2.toNat)):Nat):Int).toNat)∧(0+(((a1.toNat+(a0.length - a2.toNat)):Nat):Int).toNat)+((a0.length:Int).toNat - (((a1.toNat+(a0.length - a2.toNat)):Nat):Int).toNat)≤k0) (ltt (h.take (0+(((a1.toNat+(a0.length - a2.toNat)):Nat):Int).toNat)++(List.replicate ((a0.length:Int).toNat - (((a1.toNat+(a0.length - a2.toNat)):Nat):Int).toNat) (((⟨[],[],0⟩:S64),none,0,0):S64×Hd)).map some++h.drop ((0+(((a1.toNat+(a0.length - a2.toNat)):Nat):Int).toNat)+((a0.length:Int).toNat - (((a1.toNat+(a0.length - a2.toNat)):Nat):Int).toNat))) fun C=>((rdo C 0 (a1.toNat+(a0.length - a2.toNat))).bind fun G=>(some G))))))))))))
end
section
variable {r:World} {L:List HP} {w:World} {Z:Nat→Prop} {wz:World}
theorem pQ {a0 k0 a1 a2 A0 n0 A2 n2 c2 y} (G:eK a0 k0 a1 a2=some y) (X:SH r (own kp64 64 A0 n0 k0 a0::own kp64 64 A2 n2 c2 a2::L) w) :
  Ret Tryz.prog 27 #[.slice A0 n0 k0,.int .i64 a1,.slice A2 n2 c2] w fun v w'=>∃ (B0:Option Addr) (m0:Nat) (d0:Nat),v=.slice B0 m0 d0∧SH r (own kp64 64 B0 m0 d0 y::L) w':=by
 refine enter Tryz.func27 rfl Tryz.ntmps27 [(0,_),(1,_),(2,_)] rfl (by simp) ?_
 intro U J Qf hQ hQn
 unfold eK at G
 obtain rfl:=(X.rd 0 rfl).2.1
 obtain rfl:=(X.rd 1 rfl).2.1
 refine nz 1 J rfl fun U J=>ws fun g5 b4=>xk 2 J rfl fun U J=>?_
 obtain⟨a7,H,G⟩:=bnd G
 refine x_v J (kJ jS qM rfl (J.ev rfl) (J.ev rfl) (sF (X.rd 0 rfl) H).1 (sF (X.rd 0 rfl) H).2.2.2.2.2) rfl fun U J=>wn (b4 _ _ ?_)
 refine ws fun g6 b5=>xk 1 J rfl fun U J=>aX jS (X.rd 1 rfl).2.1 J (fun U J=>?_) rfl
 refine x_m J rfl fun U J=>wn (b5 _ _ ?_)
 refine wp_seq_k fun g7 b6=>nz 2 J rfl fun U J=>bB J G rfl (fun b7 G=>?_) fun b7 G=>?_
 ·refine nz 2 J rfl fun U J=>?_
  replace X:=X.drop 1
  cases G
  refine wp_ret (hQ _ _ ?_)
  exact lv Tryz.results27 J rfl ⟨A0,a0.length,k0,rfl,X⟩
 refine wp_skip (b6 _ _ ?_)
 refine ws fun g8 b8=>xk 1 J rfl fun U J=>aX jS (X.rd 0 rfl).2.1 J (fun U J=>?_) rfl
 refine x_m J rfl fun U J=>wn (b8 _ _ ?_)
 refine wp_seq_k fun g9 b9=>nz 3 J rfl fun U J=>bB J G rfl (fun c0 G=>?_) fun c0 G=>?_
 ·refine ws fun h0 c3=>xk 2 J rfl fun U J=>?_
  obtain⟨c4,G⟩:=aB G
  have hr:=X.rd 1 rfl
  refine gG 0 aVs jS J X hr.1 hr.2.1 c4 rfl (fun c5 c6 c7 U w X J=>?_) rfl
  refine x_m J rfl fun U J=>wn (c3 _ _ ?_)
  replace X:=X.drop 1
  cases G
  refine wp_ret (hQ _ _ ?_)
  exact lv Tryz.results27 J rfl ⟨c5,c6,c7,rfl,X⟩
 refine wp_skip (b9 _ _ ?_)
 refine wp_seq_k fun h1 c8=>ws fun h2 c9=>xk 2 J rfl fun U J=>x_l G J rfl fun h a8 U J G=>x_m J rfl fun U J=>x_v J (bAm jS rfl (J.ev rfl)) rfl fun U J=>nk 1 J rfl fun U J=>c9 _ _ (bB J G rfl (fun d1 G=>?_) fun d1 G=>?_)
 ·refine ws fun h3 d2=>xk 2 J rfl fun U J=>?_
  obtain⟨h4,S,G⟩:=bnd G
  refine x_v J (wC jS qM rfl (J.ev rfl) (J.ev rfl) (sF (X.rd 0 rfl) S).2.2.2.2.1 (sF (X.rd 0 rfl) S).2.2.1) rfl fun U J=>xk 2 J rfl fun U J=>x_v (v:=.int .i64 h) J (jY a8 (iR rfl (J.ev rfl) (J.ev rfl))) rfl fun U J=>x_m J rfl fun U J=>x_l G J rfl fun Y _ U J G=>?_
  obtain⟨d3,G⟩:=aB G
  refine aXk (((⟨[],[],0⟩:S64),none,0,0):S64×Hd) jS uu3 aVs rfl J X (aXm (X.rd 0 rfl) S).1 (aXm (X.rd 0 rfl) S).2.1 d3 (fun a3 a4 U w X J=>?_) rfl
  obtain⟨d4,d5,G⟩:=nZ G
  rw [← d5] at X
  refine x_m J rfl fun U J=>wn (d2 _ _ ?_)
  refine ws fun h5 d6=>xk 2 J rfl fun U J=>?_
  obtain⟨d7,G⟩:=aB G
  have a5:=X.rd 0 rfl
  refine x_v (v:=.slice (some ⟨a3,(0+a1.toNat) * 3,none⟩) ((a1.toNat+Y.toNat) - a1.toNat) (a4 - a1.toNat)) J (aAf (lo:=0) jS qM rfl (J.ev rfl) (J.ev rfl) ⟨d7.1,by have:=a5.2.1; omega,a5.2.2.1⟩) rfl fun U J=>x_m J rfl fun U J=>?_
  obtain⟨d8,G⟩:=aB G
  refine aWb (lo:=(0+a1.toNat)) (zs:=a2.take (min a2.length (d4.length - a1.toNat))) 0 jS qM J X (Rd.take_ (X.rd 2 rfl).1 _) (cpk (X.rd 2 rfl).2.1 (by have:=a5.2.1; omega)) d8 rfl (fun h6 U w X J=>?_) rfl
  obtain⟨d9,e0,G⟩:=nZ G
  rw [← e0] at X
  refine wn (d6 _ _ ?_)
  refine wp_seq_k fun h7 e1=>cN [0,0,0,6,15,0,0,96,255] [8] rfl J X (by kernel_rfl) (by kernel_rfl) (by kernel_rfl) (by kernel_rfl) fun w X=>?_
  obtain⟨I,e2,G⟩:=nZ G
  obtain⟨e3,G⟩:=aB G
  have a6:=X.rd 0 rfl
  refine⟨[(0,.slice (some ⟨a3,0,none⟩) (a1.toNat+Y.toNat) a4),(1,.int .i64 a1),(2,.int .i64 (a2.length:Int)),(3,.int .i64 I),(4,.slice (some ⟨a3,(0+I.toNat) * 3,none⟩) ((a1.toNat+Y.toNat) - I.toNat) (a4 - I.toNat)),(5,.slice A0 a0.length k0),(6,.int .i64 a1),(7,.slice (if k0=a1.toNat then A0 else A0.map (·.add (a1.toNat * 3))) (a0.length - a1.toNat) (k0 - a1.toNat))],?_⟩
  refine dF [0,1,2,3,4,5,6,7] [8] (by kernel_rfl) ⟨pm rfl,pm rfl,pm rfl,pt [(47,_),(48,_)] rfl fun U J=>jY e2 (iR rfl (J.ev rfl) (J.ev rfl)),pt [(46,_),(49,_)] rfl fun U J=>aAf (lo:=0) jS qM rfl (J.ev rfl) (J.ev rfl) ⟨e3.1,by have:=a6.2.1; omega,a6.2.2.1⟩,pm rfl,pm rfl,pt [(51,_),(52,_)] rfl (fun U J=>kJ jS qM rfl (J.ev rfl) (J.ev rfl) (sF (X.rd 1 rfl) H).1 (sF (X.rd 1 rfl) H).2.2.2.2.2),trivial⟩ ⟨et [(50,_),(53,_)] rfl (fun U J K hK=>?_),trivial⟩
  obtain⟨e4,G⟩:=aB G
  refine aWa (lo:=(0+I.toNat)) (zs:=a7.take (min a7.length (d9.length - I.toNat))) 0 jS qM J X (Rd.take_ (aWl (X.rd 1 rfl) H).1 _) (cpk (aWl (X.rd 1 rfl) H).2.1 (by have:=a6.2.1; omega)) e4 rfl (fun h8 w X=>?_) rfl
  obtain⟨h9,e5,G⟩:=nZ G
  rw [← e5] at X
  refine hK _ [] _ rfl (gM [] (by kernel_rfl) trivial ⟨by kernel_rfl,by kernel_rfl⟩ [(9,_)] rfl (fun U J=>?_))
  refine e1 _ _ (nz 2 J rfl fun U J=>?_)
  replace X:=X.drop 1 |>.drop 1
  cases G
  refine wp_ret (hQ _ _ ?_)
  exact lv Tryz.results27 J rfl ⟨some ⟨a3,0,none⟩,a1.toNat+Y.toNat,a4,rfl,X⟩
 refine wp_skip (c8 _ _ ?_)
 refine wp_seq_k fun i0 e6=>?_
 obtain⟨e7,G⟩:=aB G
 have hQ0:=aFl e7 X
 clear X
 obtain⟨C,rfl,X⟩:=hQ0
 refine aC (xk 3 J rfl fun U J=>?_)
 refine x_v (v:=.int .i64 h) J (jY a8 (iR rfl (J.ev rfl) (J.ev rfl))) rfl fun U J=>?_
 obtain⟨a9,G⟩:=aB G
 refine x_v J (wC jS qM rfl (J.ev rfl) (J.ev rfl) a9.1 a9.2) rfl fun U J=>x_m J rfl fun U J=>wn (e6 _ _ ?_)
 refine wp_seq_k fun i1 i2=>ws fun i3 e8=>xk 4 J rfl fun U J=>x_l G J rfl fun z e9 U J G=>?_
 obtain⟨f2,G⟩:=aB G
 refine x_v (v:=.slice (some ⟨C,(0+z.toNat) * 3,none⟩) (h.toNat - z.toNat) (k0 - z.toNat)) J (aAf (lo:=0) jS qM rfl (J.ev rfl) (J.ev rfl) f2) rfl fun U J=>?_
 obtain⟨f3,G⟩:=aB G
 refine x_v (v:=.bool false) J (aW4 (bAo (aRq jS qM X 1 0 rfl rfl (by decide) f3)) rfl (evs J rfl)) rfl fun U J=>nk 1 J rfl fun U J=>e8 _ _ (c_t (b:=true) rfl J ?_ rfl)
 refine wp_seq_k fun i4 f4=>cN [0,0,0,6,15,0,0,96,255] [8] rfl J X (by kernel_rfl) (by kernel_rfl) (by kernel_rfl) (by kernel_rfl) fun w X=>?_
 obtain⟨f5,G⟩:=aB G
 obtain⟨f6,G⟩:=aB G
 refine⟨[(0,.slice (some ⟨C,0,none⟩) h.toNat k0),(1,.int .i64 a1),(2,.int .i64 (a2.length:Int)),(3,.int .i64 z),(4,.slice (some ⟨C,(0+z.toNat) * 3,none⟩) (h.toNat - z.toNat) (k0 - z.toNat)),(5,.slice (some ⟨C,0,none⟩) h.toNat k0),(6,.int .i64 a1),(7,.slice (some ⟨C,(0+a1.toNat) * 3,none⟩) (h.toNat - a1.toNat) (k0 - a1.toNat))],?_⟩
 refine dF [0,1,2,3,4,5,6,7] [8] (by kernel_rfl) ⟨pm rfl,pm rfl,pm rfl,pt [(70,_),(71,_)] rfl fun U J=>jY e9 (iR rfl (J.ev rfl) (J.ev rfl)),pt [(69,_),(72,_)] rfl fun U J=>aAf (lo:=0) jS qM rfl (J.ev rfl) (J.ev rfl) f5,pm rfl,pm rfl,pt [(74,_),(75,_)] rfl fun U J=>aAf (lo:=0) jS qM rfl (J.ev rfl) (J.ev rfl) f6,trivial⟩ ⟨et [(73,_),(76,_)] rfl (fun U J K hK=>?_),trivial⟩
 obtain⟨f7,b3,G⟩:=bnd G
 obtain⟨f8,G⟩:=aB G
 refine aWn (lo:=(0+z.toNat)) (zs:=f7) 0 jS qM J X (aQk (lo:=(0+a1.toNat)) X 0 rfl (zK b3).2.1) (zK b3).1 f8 rfl (fun i5 w X=>?_) rfl
 obtain⟨i6,f9,G⟩:=nZ G
 rw [← f9] at X
 refine hK _ [] _ rfl (gM [] (by kernel_rfl) trivial ⟨by kernel_rfl,by kernel_rfl⟩ [(0,_),(1,_),(2,_)] rfl (fun U J=>?_))
 refine f4 _ _ (ws fun i7 g0=>?_)
 refine xk 2 J rfl fun U J=>?_
 obtain⟨g1,G⟩:=aB G
 refine x_v (v:=.slice (some ⟨C,(0+a1.toNat) * 3,none⟩) (h.toNat - a1.toNat) (k0 - a1.toNat)) J (aAf (lo:=0) jS qM rfl (J.ev rfl) (J.ev rfl) g1) rfl fun U J=>x_m J rfl fun U J=>?_
 obtain⟨g2,G⟩:=aB G
 refine aXn (lo:=(0+a1.toNat)) (zs:=a2.take (min a2.length (h.toNat - a1.toNat))) 0 jS qM J X (Rd.take_ (X.rd 1 rfl).1 _) (cpk (X.rd 1 rfl).2.1 rfl) g2 rfl (fun i8 U w X J=>?_) rfl
 obtain⟨i9,g3,G⟩:=nZ G
 rw [← g3] at X
 refine wn (g0 _ _ ?_)
 refine nz 2 J rfl fun U J=>?_
 obtain⟨j0,g4,G⟩:=bnd G
 replace X:=(aNt X g4).drop 1
 cases G
 refine wp_ret (hQ _ _ ?_)
 exact lv Tryz.results27 J rfl ⟨some ⟨C,0,none⟩,h.toNat,k0,rfl,X⟩
theorem pS {a0 k0 a1 a2 A0 n0 y} (G:eM a0 k0 a1 a2=some y) (X:SH r (own kp64 64 A0 n0 k0 a0::L) w) :
  Ret Tryz.prog 50 #[.slice A0 n0 k0,.int .i64 a1,.int .i64 a2] w fun v w'=>∃ (B0:Option Addr) (m0:Nat) (d0:Nat),v=.slice B0 m0 d0∧SH r (own kp64 64 B0 m0 d0 y::L) w':=by
 refine enter Tryz.func50 rfl Tryz.ntmps50 [(0,_),(1,_),(2,_)] rfl (by simp) ?_
 intro U J Qf hQ hQn
 unfold eM at G
 obtain rfl:=(X.rd 0 rfl).2.1
 refine nz 1 J rfl fun U J=>ws fun b7 S=>xk 4 J rfl fun U J=>aX jS (X.rd 0 rfl).2.1 J (fun U J=>?_) rfl
 obtain⟨z,G⟩:=aB G
 refine x_v J (zE jS qM rfl (J.ev rfl) (J.ev rfl) (J.ev rfl) (J.ev rfl) ⟨z.1,z.2.1,z.2.2.1,by have:=(X.rd 0 rfl).2; omega⟩) rfl fun U J=>wn (S _ _ ?_)
 refine wp_seq_k fun b8 Y=>nz 3 J rfl fun U J=>bB J G rfl (fun a3 G=>?_) fun a3 G=>?_
 ·refine nz 2 J rfl fun U J=>?_
  cases G
  refine wp_ret (hQ _ _ ?_)
  exact lv Tryz.results50 J rfl ⟨A0,a0.length,k0,rfl,X⟩
 refine wp_skip (Y _ _ ?_)
 refine ws fun b9 a4=>xk 1 J rfl fun U J=>aX jS (X.rd 0 rfl).2.1 J (fun U J=>?_) rfl
 refine x_m J rfl fun U J=>wn (a4 _ _ ?_)
 refine wp_seq_k fun c0 a5=>?_
 obtain⟨a6,G⟩:=aB G
 have hQ0:=aFl a6 X
 clear X
 obtain⟨h,rfl,X⟩:=hQ0
 refine cN [0,0,3,0,0,24,63,127] [6] rfl J X (by kernel_rfl) (by kernel_rfl) (by kernel_rfl) (by kernel_rfl) fun w X=>?_
 obtain⟨H,G⟩:=aB G
 obtain⟨C,G⟩:=aB G
 refine⟨[(0,.slice (some ⟨h,0,none⟩) a0.length k0),(1,.int .i64 a1),(2,.slice (some ⟨h,0,none⟩) a1.toNat k0),(3,.slice (some ⟨h,0,none⟩) a0.length k0),(4,.int .i64 a2),(5,.slice (if k0=a2.toNat then (some ⟨h,0,none⟩) else (some (⟨h,0,none⟩:Addr)).map (·.add (a2.toNat * 3))) (a0.length - a2.toNat) (k0 - a2.toNat))],?_⟩
 refine dF [0,1,2,3,4,5] [6] (by kernel_rfl) ⟨pm rfl,pm rfl,pt [(20,_),(21,_)] rfl (fun U J=>wC jS qM rfl (J.ev rfl) (J.ev rfl) H.1 H.2),pm rfl,pm rfl,pt [(23,_),(24,_)] rfl (fun U J=>kJ jS qM rfl (J.ev rfl) (J.ev rfl) C.1 C.2.1),trivial⟩ ⟨et [(22,_),(25,_)] rfl (fun U J K hK=>?_),trivial⟩
 obtain⟨c3,I,G⟩:=bnd G
 obtain⟨a7,G⟩:=aB G
 refine aWy 0 jS qM J X (aTh (lo:=0) (L0:=a2.toNat) (m:=a0.length) X 0 rfl I ⟨rfl,C.2.2⟩) (zK I).1 a7 rfl (fun  w X=>?_) rfl
 obtain⟨c4,a8,G⟩:=nZ G
 rw [← a8] at X
 refine hK _ [(7,.slice (some ⟨h,0,none⟩) (a1.toNat+(a0.length - a2.toNat)) k0)] _ rfl (gM [7] (by kernel_rfl) ⟨pm rfl,trivial⟩ ⟨by kernel_rfl,by kernel_rfl⟩ [(0,_),(7,_)] rfl (fun U J=>?_))
 refine a5 _ _ (ws fun c5 a9=>?_)
 refine xk 2 J rfl fun U J=>x_v J (aD3 jS rfl (J.ev rfl)) rfl fun U J=>x_m J rfl fun U J=>?_
 obtain⟨b3,G⟩:=aB G
 refine x_v (v:=.slice (some ⟨h,(0+(((a1.toNat+(a0.length - a2.toNat)):Nat):Int).toNat) * 3,none⟩) ((a0.length:Int).toNat - (((a1.toNat+(a0.length - a2.toNat)):Nat):Int).toNat) (k0 - (((a1.toNat+(a0.length - a2.toNat)):Nat):Int).toNat)) J (aPk (lo:=0) jS qM rfl (J.ev rfl) (J.ev rfl) (J.ev rfl) b3) rfl fun U J=>?_
 obtain⟨b4,G⟩:=aB G
 refine aUm (lo:=(0+(((a1.toNat+(a0.length - a2.toNat)):Nat):Int).toNat)) (z0:=(((⟨[],[],0⟩:S64),none,0,0):S64×Hd)) 0 jS aV8 rfl J X b4 rfl (fun U w X J=>?_) rfl
 obtain⟨c6,b5,G⟩:=nZ G
 rw [← b5] at X
 refine wn (a9 _ _ ?_)
 refine nz 2 J rfl fun U J=>?_
 obtain⟨c7,b6,G⟩:=bnd G
 replace X:=aNt X b6
 cases G
 refine wp_ret (hQ _ _ ?_)
 exact lv Tryz.results50 J rfl ⟨some ⟨h,0,none⟩,a1.toNat+(a0.length - a2.toNat),k0,rfl,X⟩
end
theorem aJs {α:Type} {xs:List α} {l u:Nat} (h:l≤u) (hu:u≤xs.length):oO xs (l:Int) (u:Int)=some ((xs.take u).drop l):=by
  unfold oO; rw [if_pos (by omega)]; simp
theorem fT {α:Type} {p:Prop} [Decidable p] {x:Option α} (h:p):chk p x=x:=if_pos h
theorem aV4 {n:Int} (h : -9223372036854775808≤n) (h':n≤9223372036854775807):IntKind.i64.wrap n=n:=IntWalk.i64_in n ⟨h,h'⟩
theorem aZt {α β:Type} (e:α) (f:α→Option β):ltt e f=f e:=rfl
section
variable {α:Type}
theorem aB0 (A C:List (Option α)) (B:List α) {lo k:Nat} (hlo:A.length=lo) (hk:B.length=k):rdo (A++(B.map some++C)) lo k=some B:=by
  unfold rdo
  rw [if_pos (by simp; omega), ← hlo,List.drop_left, ← hk,show B.length=(B.map some).length by simp,List.take_left,aK2]
theorem aN3 (A B:List α) {k:Nat} (m:Nat) (h:A.length=k):(A++B).drop (k+m)=B.drop m:=by
  subst h; rw [List.drop_append,List.drop_of_length_le (by omega),List.nil_append,Nat.add_sub_cancel_left]
theorem aAs (A B:List α) {k:Nat} (h:A.length=k):(A++B).take k=A:=by subst h; exact List.take_left
theorem aLe (A B:List α) {k:Nat} (h:A.length=k):(A++B).drop k=B:=by subst h; exact List.drop_left
end
theorem aTe (P D ys:List (S64×Hd)) (k0:Nat) (hk:P.length+D.length≤k0) (hb:(P.length+D.length+ys.length) * 48≤140737488355328) (hm:0<ys.length) :
    eK (P++D) k0 (P.length:Int) ys=some (P++ys++D):=by
  unfold eK
  have hl:(P++D).length=P.length+D.length:=List.length_append
  have c1:=aJs (xs:=P++D) (l:=P.length) (u:=(P++D).length) (by omega) (Nat.le_refl _)
  rw [List.take_length,List.drop_left] at c1
  rw [c1]
  simp only [Option.bind_some,aZt]
  rw [if_neg (by simp only [beq_iff_eq]; omega)]
  by_cases hD:D=[]
  · subst hD
    rw [if_pos (by simp),fT (by rw [hl]; simp only [List.length_nil] at hb ⊢; omega)]
    simp
  have hDl:0<D.length:=List.length_pos_iff.2 hD
  rw [if_neg (by simp only [beq_iff_eq,hl]; omega),hl,aV4 (n:=((P.length+D.length:Nat):Int)+(ys.length:Int)) (by omega) (by omega),
    show ((P.length+D.length:Nat):Int)+(ys.length:Int)=((P.length+D.length+ys.length:Nat):Int) by omega]
  have e2:IntKind.i64.wrap ((P.length:Int)+(ys.length:Int))=((P.length+ys.length:Nat):Int):=by rw [aV4 (by omega) (by omega)]; omega
  have e3:IntKind.i64.wrap (((P.length+D.length+ys.length:Nat):Int) - (P.length:Int))=((D.length+ys.length:Nat):Int):=by rw [aV4 (by omega) (by omega)]; omega
  rw [e2,e3]
  simp only [Int.toNat_natCast,Nat.zero_add]
  by_cases hg:k0<P.length+D.length+ys.length
  · rw [if_pos (by simp only [decide_eq_true_eq]; omega)]
    have c2:=aJs (xs:=P++D) (l:=0) (u:=P.length) (by omega) (by omega)
    rw [List.take_left,List.drop_zero,show ((0:Nat):Int)=0 from rfl] at c2
    rw [c2]
    simp only [Option.bind_some]
    generalize (((⟨[],[],0⟩:S64),none,0,0):S64×Hd)=z
    have q0:(P++List.replicate (D.length+ys.length) z).length=P.length+D.length+ys.length:=by simp; omega
    have q1:ys.take (min ys.length (P.length+D.length+ys.length - P.length))=ys:=List.take_of_length_le (by omega)
    have q2:(P++List.replicate (D.length+ys.length) z).take P.length++ys++(P++List.replicate (D.length+ys.length) z).drop (P.length+ys.length)=P++ys++List.replicate D.length z:=by
      rw [List.take_left,aN3 _ _ _ rfl,List.drop_replicate]
      congr 2
      omega
    rw [fT (by omega),q0,q1,fT (by omega),fT (by omega),q2]
    have q3:(P++ys++List.replicate D.length z).length=P.length+D.length+ys.length:=by simp; omega
    rw [q3,fT (by omega)]
    have q4:D.take (min D.length (P.length+D.length+ys.length - (P.length+ys.length)))=D:=List.take_of_length_le (by omega)
    rw [q4,fT (by omega),aAs (P++ys) _ (by simp),List.drop_of_length_le (by omega),List.append_nil]
  · rw [if_neg (by simp only [decide_eq_true_eq]; omega),fT (by omega),fT (by omega),fT (by omega),fT (by omega),fT (by omega),fT (by omega)]
    have e4:(P++D).map some++List.replicate (k0 - (P.length+D.length)) none=P.map some++(D.map some++List.replicate (k0 - (P.length+D.length)) none):=by simp
    rw [e4,aB0 (P.map some) _ D (by simp) (by omega)]
    simp only [Option.bind_some]
    have q1:ys.take (min ys.length (P.length+D.length+ys.length - P.length))=ys:=List.take_of_length_le (by omega)
    rw [fT (by omega),fT (by omega),q1,fT (by omega)]
    generalize hN:List.replicate (k0 - (P.length+D.length)) (none:Option (S64×Hd))=N
    have hNl:N.length=k0 - (P.length+D.length):=by rw [← hN]; simp
    obtain⟨O,hO⟩:∃ O,O=P.map some++(D.map some++N):=⟨_,rfl⟩
    rw [← hO]
    have hOl:O.length=k0:=by rw [hO]; simp [hNl]; omega
    have q5:(O.take (P.length+ys.length)).length=P.length+ys.length:=by rw [List.length_take]; omega
    have q6:(O.take (P.length+ys.length)++D.map some++O.drop (P.length+ys.length+D.length)).take P.length=P.map some:=by
      rw [List.append_assoc,List.take_append_of_le_length (by omega),List.take_take,Nat.min_eq_left (by omega),hO,aAs _ _ (by simp)]
    have q7:(O.take (P.length+ys.length)++D.map some++O.drop (P.length+ys.length+D.length)).drop (P.length+ys.length)=D.map some++O.drop (P.length+ys.length+D.length):=by
      rw [List.append_assoc,aLe _ _ q5]
    rw [q6,q7]
    have q8:P.map some++ys.map some++(D.map some++O.drop (P.length+ys.length+D.length))=[]++((P++ys++D).map some++O.drop (P.length+ys.length+D.length)):=by simp
    rw [q8,aB0 [] _ (P++ys++D) (lo:=0) (k:=P.length+D.length+ys.length) rfl (by simp; omega)]
    rfl
theorem aS5 (P D:List (S64×Hd)) (x:S64×Hd) (k0:Nat) (hk:P.length+1+D.length≤k0) (hb:k0≤9223372036854775807) :
    eM (P++x::D) k0 (P.length:Int) ((P.length:Int)+1)=some (P++D):=by
  unfold eM
  have hl:(P++x::D).length=P.length+1+D.length:=by simp; omega
  have t1:((P.length:Int)+1).toNat=P.length+1:=by omega
  rw [hl,t1,fT (by omega),if_neg (by simp; omega),fT (by omega),fT (by omega),fT (by omega)]
  simp only [Int.toNat_natCast,Nat.zero_add,aZt]
  rw [show P.length+1+D.length - (P.length+1)=D.length by omega]
  generalize hN:List.replicate (k0 - (P.length+1+D.length)) (none:Option (S64×Hd))=N
  have hNl:N.length=k0 - (P.length+1+D.length):=by rw [← hN]; simp
  have e4:(P++x::D).map some++N=(P.map some++[some x])++(D.map some++N):=by simp
  rw [e4,aB0 (P.map some++[some x]) N D (by simp) rfl]
  simp only [Option.bind_some]
  obtain⟨O,hO⟩:∃ O,O=(P.map some++[some x])++(D.map some++N):=⟨_,rfl⟩
  rw [← hO]
  have hOl:O.length=k0:=by rw [hO]; simp [hNl]; omega
  have q6:O.take P.length=P.map some:=by rw [hO,List.append_assoc,aAs _ _ (by simp)]
  rw [q6,fT (by omega),fT (by omega),show P.length+1+D.length - (P.length+D.length)=1 by omega,fT (by omega)]
  have q9:((P.map some++D.map some++O.drop (P.length+D.length)).take (P.length+D.length))=(P++D).map some:=by
    rw [aAs _ _ (by simp)]; simp
  rw [q9]
  have q8:∀ X Y:List (Option (S64×Hd)),(P++D).map some++X++Y=[]++((P++D).map some++(X++Y)):=by intro X Y; simp
  rw [q8,aB0 [] _ (P++D) (lo:=0) (k:=P.length+D.length) rfl (by simp)]
  rfl
section
variable {r w:World} {L:List HP} {α β:Type} {d:Kd β} {e':TypeId} {g:α→List β}
theorem yS:∀ {ps qs:List (α×Hd)} {L:List HP} {S:Nat→Prop},Sep (sI d e' g ps::sI d e' g qs::L) w S→Sep (sI d e' g (ps++qs)::L) w S
  | [],qs,L,S,h=>by
    have h1:Sep ([]++(sI d e' g qs::L)) w S:=Sep.unstar (Ls:=[]) h
    exact h1
  | p::ps,qs,L,S,h=>oH.2 ((oH.1 h).tl fun S hS=>yS hS)
theorem aDu:∀ {ps qs:List (α×Hd)} {L:List HP} {S:Nat→Prop},Sep (sI d e' g (ps++qs)::L) w S→Sep (sI d e' g ps::sI d e' g qs::L) w S
  | [],qs,L,S,h=>Sep.star (Ls:=[]) h
  | p::ps,qs,L,S,h=>oH.2 ((oH.1 h).tl fun S hS=>aDu hS)
end
abbrev oF (A:Option Addr) (n c:Nat) (xs:List S64):HP:=own2 kp64 (kI .u8) 5 (fun x:S64=>x.f1) 64 A n c xs
def aP4 (xs:List S64) (i:Int) (ys:List S64):Option (List S64):=if 0≤i∧i≤(xs.length:Int)∧0<ys.length∧(xs.length+ys.length) * 48≤140737488355328 then some (xs.take i.toNat++ys++xs.drop i.toNat) else none
def aTt (xs:List S64) (i j:Int):Option (List S64):=if 0≤i∧i<(xs.length:Int)∧j=i+1 then some (xs.eraseIdx i.toNat) else none
theorem aZa {r w:World} {L:List HP} (xs:List S64) (i:Int) (ys:List S64) {A B:Option Addr} {n c m c2:Nat} {y:List S64} (hF:aP4 xs i ys=some y) (hS:SH r (oF A n c xs::oF B m c2 ys::L) w) :
    Ret Tryz.prog 27 #[.slice A n c,.int .i64 i,.slice B m c2] w fun v w'=>∃ (A':Option Addr) (n' c':Nat),v=.slice A' n' c'∧SH r (oF A' n' c' y::L) w':=by
  unfold aP4 at hF
  split at hF
  · rename_i hi
    cases hF
    obtain⟨ps,hps,h1⟩:=aDc hS
    have h2:SH r (oF B m c2 ys::own kp64 64 A n c ps::sI (kI .u8) 5 (fun x:S64=>x.f1) ps::L) w:=h1.sh fun S hS=>(hS.tl fun S hS=>hS.swap).swap
    obtain⟨qs,hqs,h3⟩:=aDc h2
    have h4:SH r (own kp64 64 A n c ps::own kp64 64 B m c2 qs::sI (kI .u8) 5 (fun x:S64=>x.f1) ps::sI (kI .u8) 5 (fun x:S64=>x.f1) qs::L) w:=h3.sh fun S hS =>
      (hS.tl fun S hS=>(hS.swap).tl fun S hS=>hS.swap).swap
    have hpl:ps.length=xs.length:=by rw [← hps,List.length_map]
    have hql:qs.length=ys.length:=by rw [← hqs,List.length_map]
    obtain⟨hr,hn,hnc,hcm⟩:=h4.rd 0 rfl
    have hpd:ps.take i.toNat++ps.drop i.toNat=ps:=List.take_append_drop _ _
    have hpt:(ps.take i.toNat).length=i.toNat:=by rw [List.length_take]; omega
    have hdl:(ps.drop i.toNat).length=xs.length - i.toNat:=by rw [List.length_drop]; omega
    have e:=aTe (ps.take i.toNat) (ps.drop i.toNat) qs c (by omega) (by omega) (by omega)
    rw [hpd,hpt,Int.toNat_of_nonneg hi.1] at e
    refine Calls.mono (pQ e h4 :) ?_
    rintro ev w' ⟨v,hv,A',n',c',hv2,h5⟩
    refine⟨v,hv,A',n',c',hv2,aAo (ps:=ps.take i.toNat++qs++ps.drop i.toNat) ?_ (h5.tl fun S hS=>?_)⟩
    · rw [List.map_append,List.map_append,List.map_take,List.map_drop,hps,hqs]
    · rw [← hpd] at hS
      have s1:=aDu hS
      have s2:=s1.tl fun S hS=>hS.swap
      rw [List.append_assoc]
      exact yS (s2.tl fun S hS=>yS hS)
  · cases hF
theorem aXa {r w:World} {L:List HP} {xs:List S64} {i:Int} {ps:List (S64×Hd)} {p:S64×Hd} {A:Option Addr} {n c:Nat} (hps:ps.map Prod.fst=xs) (hp:at_ ps i=some p) (hS:SH r (own kp64 64 A n c ps::sI (kI .u8) 5 (fun x:S64=>x.f1) (ps.eraseIdx i.toNat)::L) w) :
    Ret Tryz.prog 50 #[.slice A n c,.int .i64 i,.int .i64 (i+1)] w fun v w'=>∃ (A':Option Addr) (n' c':Nat),v=.slice A' n' c'∧SH r (oF A' n' c' (xs.eraseIdx i.toNat)::L) w':=by
  obtain⟨hi0,hil,hip⟩:=dQ hp
  obtain⟨hr,hn,hnc,hcm⟩:=hS.rd 0 rfl
  obtain⟨hlt,hpp⟩:=List.getElem?_eq_some_iff.1 hip
  have hpd:ps.take i.toNat++p::ps.drop (i.toNat+1)=ps:=by
    rw [← hpp, ← List.drop_eq_getElem_cons hlt,List.take_append_drop]
  have hpt:(ps.take i.toNat).length=i.toNat:=by rw [List.length_take]; omega
  have hdl:(ps.drop (i.toNat+1)).length=ps.length - (i.toNat+1):=List.length_drop
  have hcb:c≤9223372036854775807:=by unfold maxLen at hcm; omega
  have e:=aS5 (ps.take i.toNat) (ps.drop (i.toNat+1)) p c (by omega) hcb
  rw [hpd,hpt,Int.toNat_of_nonneg hi0] at e
  refine Calls.mono (pS e hS :) ?_
  rintro ev w' ⟨v,hv,A',n',c',hv2,h5⟩
  refine⟨v,hv,A',n',c',hv2,?_⟩
  rw [← List.eraseIdx_eq_take_drop_succ] at h5
  refine aAo (ps:=ps.eraseIdx i.toNat) ?_ h5
  rw [← hps,List.eraseIdx_eq_take_drop_succ,List.eraseIdx_eq_take_drop_succ,List.map_append,List.map_take,List.map_drop]
theorem aZe {r w:World} {L:List HP} (xs:List S64) (i j:Int) {A:Option Addr} {n c:Nat} {y:List S64} (hF:aTt xs i j=some y) (hS:SH r (oF A n c xs::L) w) :
    Ret Tryz.prog 50 #[.slice A n c,.int .i64 i,.int .i64 j] w fun v w'=>∃ (A':Option Addr) (n' c':Nat),v=.slice A' n' c'∧SH r (oF A' n' c' y::L) w':=by
  unfold aTt at hF
  split at hF
  · rename_i hi
    cases hF
    obtain⟨h0,h1,rfl⟩:=hi
    have hx:at_ xs i=some (xs[i.toNat]'(by omega)):=by unfold at_; rw [if_pos h0,List.getElem?_eq_getElem]
    obtain⟨ps,A',n',c',hps,hp,h2⟩:=aGf hS hx
    have h3:SH r (own kp64 64 A n c ps::sI (kI .u8) 5 (fun x:S64=>x.f1) (ps.eraseIdx i.toNat)::L) w:=h2.sh fun S hS=>hS.tl fun S hS=>by
      obtain⟨S1,S2,q1,q2,qd,hA,hL⟩:=hS
      exact hL.mono q2
    exact aXa hps hp h3
  · cases hF
noncomputable section
set_option linter.unusedSimpArgs false
def qY (a0:(List UInt8)):Option (Bool) :=
  if (!(a0==[]))=true then (some (decide ((a0.length:Int)≤32))) else (some false)
def uT (a0:(List UInt8)):Option (Bool) :=
  qY a0
def gT (h:Int) (z:Bool):Option ((Int)⊕((Unit)⊕(Bool))) :=
  if z=true then (some (.inr (.inr false))) else (ltt (IntKind.i64.wrap (h+1)) fun C=>(some (.inl (C))))
def fN (a0:(List UInt8)) (h:Int):Option ((Int)⊕((Unit)⊕(Bool))) :=
  if (decide (h<(a0.length:Int)))=true then ((at_ a0 h).bind fun z=>(if ((z.toNat:Int) != 46)=true then (if (decide ((z.toNat:Int)<48))=true then (if (decide ((z.toNat:Int)<97))=true then (gT h true) else (gT h (decide (122<(z.toNat:Int))))) else (if (decide (57<(z.toNat:Int)))=true then (if (decide ((z.toNat:Int)<97))=true then (gT h true) else (gT h (decide (122<(z.toNat:Int))))) else (gT h false))) else (gT h false))) else (some (.inr (.inl ())))
def tO (a0:(List UInt8)):Option (Bool) :=
  (loop (fun s=>fN a0 s) (0)).bind fun t=>match t with | (.inl t)=>uT a0 | (.inr t)=>some t
def iT (a0:S64) (a1:(List UInt8)):Option (Int) :=
  if (Op.bytesLess a0.f0 a1)=true then (some (-1)) else (if (!(Op.bytesLess a0.f0 a1||a0.f0==a1))=true then (some 1) else (some 0))
def bN (a0:(List S64)) (a1:(List UInt8)) (h:Int):Option (Int×Bool) :=
  if (decide (h<(a0.length:Int)))=true then ((at_ a0 h).bind fun z=>((iT z a1).bind fun C=>(some (h,C==0)))) else (some (h,false))
def bK (a0:(List S64)) (a1:(List UInt8)) (h:Int):Option (Int×Bool) :=
  bN a0 a1 h
def aV (h:Int) (z:Int):Option ((Int×Int)⊕((Int))) :=
  some (.inl (h,z))
def aF (a0:(List S64)) (a1:(List UInt8)) (h:Int) (z:Int):Option ((Int×Int)⊕((Int))) :=
  if (decide (h<z))=true then (ltt (IntKind.i64.wrap (h+z)) fun G=>(ltt (IntKind.u64.wrap G) fun H=>(ltt (bS .u64 H 1) fun I=>(ltt (IntKind.i64.wrap I) fun C=>((at_ a0 C).bind fun J=>((iT J a1).bind fun S=>(if (decide (S<0))=true then (ltt (IntKind.i64.wrap (C+1)) fun U=>(aV U z)) else (aV h C)))))))) else (some (.inr (h)))
def bA (a0:(List S64)) (a1:(List UInt8)):Option (Int×Bool) :=
  (loop (fun s=>aF a0 a1 s.1 s.2) (0,(a0.length:Int))).bind fun t=>bK a0 a1 t
def gP (a0:S58) (a1:(List UInt8)):Option (Int×Bool) :=
  (bA a0.f0 a1).bind fun h=>(some (h.1,h.2))
def eY (a0:(Option S58)) (a1:(List UInt8)):Option (Int) :=
  match a0 with | none=>(some 5) | some h=>((tO a1).bind fun z=>(if (!z)=true then (some 1) else (if h.f3=true then (some 9) else (some 0))))
def lW (a0:S58) (z:Int) (C:Int) (h:Bool):Option (Bool×S58) :=
  some (!h,(⟨a0.f0,a0.f1,C,h,z⟩:S58))
def jK (a0:S58):Option (Bool×S58) :=
  ltt (IntKind.i64.wrap (a0.f4+1)) fun h=>(if (decide (0<a0.f2))=true then (ltt (IntKind.i64.wrap (a0.f2 - 1)) fun z=>(lW a0 h z (z==0))) else (lW a0 h a0.f2 a0.f3))
def qR (h:Int):Option (Int) :=
  some h
def oK (h:Int):Option (Int) :=
  qR h
def dK (z:S58) (C:Int) (h:Int):Option ((Int×Int)⊕((Int))) :=
  if (decide (h<(z.f0.length:Int)))=true then ((at_ z.f0 h).bind fun G=>(ltt (IntKind.i64.wrap (C+(G.f1.length:Int))) fun H=>(ltt (IntKind.i64.wrap (h+1)) fun I=>(some (.inl (H,I)))))) else (some (.inr (C)))
def nE (a0:(Option S58)):Option (Int) :=
  match a0 with | none=>(some 0) | some h=>((loop (fun s=>dK h s.1 s.2) (0,0)).bind fun t=>oK t)
def qN (h:(List (List UInt8))):Option ((List (List UInt8))) :=
  some h
def oL (h:(List (List UInt8))):Option ((List (List UInt8))) :=
  qN h
def dI (C:S58) (h:(List (List UInt8))) (z:Int):Option (((List (List UInt8))×Int)⊕(((List (List UInt8))))) :=
  if (decide (z<(C.f0.length:Int)))=true then ((at_ C.f0 z).bind fun G=>(chk (h.length+[G.f0].length≤140737488355328 / 16) (ltt (IntKind.i64.wrap (z+1)) fun H=>(some (.inl (h++[G.f0],H)))))) else (some (.inr (h)))
def mU (a0:(Option S58)):Option ((List (List UInt8))) :=
  match a0 with | none=>(some []) | some h=>((loop (fun s=>dI h s.1 s.2) ([],0)).bind fun t=>oL t)
def tA (a0:Int) (h:Bool):Option ((Option S58)×Int) :=
  if h=true then (some (none,1)) else (some (some (⟨[],a0,0,false,0⟩:S58),0))
def wE (a0:Int):Option ((Option S58)×Int) :=
  if (decide (a0<1))=true then (tA a0 true) else (tA a0 (decide (16777216<a0)))
def fZ (a2:(List Int)) (C:(Int×Bool)) (h:(Bool×S58)) (G:(List S64)):Option (Int×(Option S58)) :=
  (at_ G C.1).bind fun z=>(chk (z.f1.length+a2.length≤140737488355328 / 1) (if (!h.1)=true then (some (9,some (⟨G.set C.1.toNat (⟨z.f0,z.f1++a2,z.f2⟩:S64),h.2.f1,h.2.f2,h.2.f3,h.2.f4⟩:S58))) else (some (0,some (⟨G.set C.1.toNat (⟨z.f0,z.f1++a2,z.f2⟩:S64),h.2.f1,h.2.f2,h.2.f3,h.2.f4⟩:S58)))))
def dZ (a1:(List UInt8)) (a2:(List Int)) (C:S58) (h:(Int×Bool)) (G:Bool):Option (Int×(Option S58)) :=
  if G=true then (some (10,some C)) else ((jK C).bind fun z=>(if (!h.2)=true then ((aP4 z.2.f0 h.1 [(⟨a1,[],0⟩:S64)]).bind fun H=>(fZ a2 h z H)) else (fZ a2 h z z.2.f0)))
def nX (a0:(Option S58)) (a1:(List UInt8)) (a2:(List Int)):Option (Int×(Option S58)) :=
  match a0 with | none=>((eY none a1).bind fun C=>(if (C != 0)=true then (some (C,none)) else (none))) | some h=>((eY (some h) a1).bind fun G=>(if (G != 0)=true then (some (G,some h)) else ((gP h a1).bind fun z=>((nE (some h)).bind fun H=>(ltt (IntKind.i64.wrap (h.f1 - H)) fun I=>(if (decide (I<(a2.length:Int)))=true then (dZ a1 a2 h z true) else (if (!z.2)=true then (dZ a1 a2 h z (decide (500≤(h.f0.length:Int)))) else (dZ a1 a2 h z false))))))))
def pY (a0:(Option S58)) (a1:(List UInt8)):Option ((List Int)×Int) :=
  match a0 with | none=>((eY none a1).bind fun z=>(if (z != 0)=true then (some ([],z)) else (none))) | some h=>((eY (some h) a1).bind fun C=>(if (C != 0)=true then (some ([],C)) else ((gP h a1).bind fun G=>(if (!G.2)=true then (some ([],5)) else ((at_ h.f0 G.1).bind fun H=>((dR H.f1).bind fun I=>(some (I,0))))))))
end
end Go.Proofs.YtnefioccdkmegaaGreatDoor.M
