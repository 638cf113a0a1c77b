/- Texts of the claim, joined: what it uses of Mrn, Dpo, Mpo, Dhp, Mhp, Vf, Dfu, Mfu, Dfa, Mfa, Ha, Dfb, Mfb, Dfd. -/
import Derived.Test.YtdkpjpoajlmmfaaGreatDoorZg
import Derived.Shelf.Strconv.Itoa3
namespace Go.Proofs.YtdkpjpoajlmmfaaGreatDoor.M
open Go Go.RowKit Go.Proofs.YtdkpjpoajlmmfaaGreatDoor.E
set_option linter.unusedVariables false
set_option maxRecDepth 100000
set_option maxHeartbeats 4000000
set_option linter.unusedSimpArgs false
section
variable {r:World} {L:List HP} {w:World} {Z:Nat->Prop} {wz:World}
theorem aF5 {a0 a1 a2 a3 a4 A0 n0 c0 y} (G:sB a0 a1 a2 a3 a4=some y) (X:SH r (L) w) (c5:RdL L k61 A0 n0 c0 a0) :
  Ret Tryz.prog 17 #[.slice A0 n0 c0,.int .u64 a1,.int .u64 a2,.int .i64 a3,.int .i64 a4] w λv w'=>∃ (B0:Option Addr) (m0:Nat) (d0:Nat),v=.tuple #[(.slice B0 m0 d0),(.int .i64 y.2)]/\SH r (own k61 61 B0 m0 d0 y.1::L) w':=by
 refine enter Tryz.func17 rfl Tryz.ntmps17 [(0,_),(1,_),(2,_),(3,_),(4,_)] rfl (by simp) ?_;intro U J Qf hQ n2;unfold sB at G;refine nz 2 J rfl λU J=>nz 1 J rfl λU J=>nz 1 J rfl λU J=>wp_seq_k λl7 g4=>nz 1 J rfl λU J=>aA λe7 g5=>?_;have l4:∀c8 c9,aBb c8 c9=some y->∀a7 a8 a9 U w,FR 112 [] U [(12,.slice a7 a8 a9),(13,.int .i64 c9)]->SH r (own k61 61 a7 a8 a9 c8::L) w->e7 U w:=by intro c8 c9 G a7 a8 a9 U w J X;unfold aBb at G;refine g5 _ _ (g4 _ _ ?_);refine nz 4 J rfl λU J=>?_;cases G;refine wp_ret (hQ _ _ ?_);exact lv2 Tryz.results17 J rfl rfl ⟨a7,a8,a9,rfl,X⟩
 obtain⟨g6,g7,G⟩:=bnd G;have g8:∀F H,(F,H)=g6->∀b1 b2 b3 U w,FR 112 [] U [(12,.slice b1 b2 b3),(13,.int .i64 H)]->SH r (own k61 61 b1 b2 b3 F::L) w->e7 U w:=by intro F H ht b1 b2 b3 U w J X;subst ht;replace G:yY F H=some y:=G;unfold yY at G;exact l4 F H G b1 b2 b3 U w (J.sub _ rfl) X
 replace X:=SH.nil_own (d:=k61) (e:=61) X;refine aS g7 (λs U w=>∃I K M,FR 112 [] U [(0,.slice A0 n0 c0),(1,.int .u64 a1),(2,.int .u64 a2),(3,.int .i64 a3),(4,.int .i64 a4),(12,.slice I K M),(13,.int .i64 s.2.1),(14,.int .i64 s.2.2)]/\SH r (own k61 61 I K M s.1::L) w) ⟨none,0,0,J.sub _ rfl,X⟩ ?_;intro l8 g9 N G h0 h1 U w a6;obtain⟨e8,c,b⟩:=g9;replace G:iQ a0 a1 a2 a3 a4 e8 c b=some N:=G;unfold iQ at G
 try dsimp only at a6
 obtain⟨I,K,M,J,X⟩:=a6;refine wp_seq_k λl9 h2=>ws λm1 h3=>xk 2 J rfl λU J=>aW gW (X.rdl 1 c5 rfl).2.1 J rfl λU J=>nk 1 J rfl λU J=>h3 _ _ (aX J G rfl (λh4 G=>?_) λh4 G=>?_)
 ·refine wp_skip (h2 _ _ ?_);refine wp_seq_k λm2 h5=>aA λh6 h7=>?_;have f9:∀d1 d2,vC b d1 d2=some N->∀b4 b5 b6 U w,FR 112 [] U [(0,.slice A0 n0 c0),(1,.int .u64 a1),(2,.int .u64 a2),(3,.int .i64 a3),(4,.int .i64 a4),(12,.slice b4 b5 b6),(13,.int .i64 d2),(14,.int .i64 b)]->SH r (own k61 61 b4 b5 b6 d1::L) w->h6 U w:=by intro d1 d2 G b4 b5 b6 U w J X;unfold vC at G;refine h7 _ _ (h5 _ _ ?_);refine aC (x_m J rfl λU J=>?_);refine x_l G J rfl λm3 _ U J G=>x_m J rfl λU J=>wpList_nil ?_;cases G;exact⟨_,h0 _ rfl,b4,b5,b6,J.sub _ rfl,X⟩
  refine nz 1 J rfl λU J=>nz 1 J rfl λU J=>nz 1 J rfl λU J=>wp_seq_k λm4 h8=>nz 2 J rfl λU J=>aA λe9 h9=>?_;have l5:∀t d3 d4 d5,xX a3 a4 c b t d3 d4 d5=some N->∀x z A U w,FR 112 [] U [(0,.slice A0 n0 c0),(1,.int .u64 a1),(2,.int .u64 a2),(3,.int .i64 a3),(4,.int .i64 a4),(12,.slice x z A),(13,.int .i64 c),(14,.int .i64 b),(15,.bool d3),(16,.bool d4),(17,.bool d5)]->SH r (own k61 61 x z A t::L) w->e9 U w:=by
   intro t d3 d4 d5 G x z A U w J X;unfold xX at G;refine h9 _ _ (h8 _ _ ?_);refine wp_seq_k λi0 i1=>?_;have c6:∀d6,nJ c b t d6=some N->∀U w,FR 112 [] U [(0,.slice A0 n0 c0),(1,.int .u64 a1),(2,.int .u64 a2),(3,.int .i64 a3),(4,.int .i64 a4),(12,.slice x z A),(13,.int .i64 c),(14,.int .i64 b),(107,.bool d6)]->SH r (own k61 61 x z A t::L) w->i0 U w:=by
    intro d6 G U w J X;unfold nJ at G;refine i1 _ _ (aX J G rfl (λi2 G=>?_) λi2 G=>?_)
    ·refine aC (x_m J rfl λU J=>?_);exact x_l G J rfl λi3 _ U J G=>x_m J rfl λU J=>wpList_nil (f9 t i3 G x z A U w (J.sub _ rfl) X)
    exact wp_skip (f9 t c G x z A U w (J.sub _ rfl) X)
   refine aC (xk 2 J rfl λU J=>?_);refine bcG G (λd7 G=>?_) λd7 G=>?_
   ·refine xg 3 d7 J rfl rfl λU J=>bcG G (λd8 G=>?_) λd8 G=>?_
    ·refine xg 3 d8 J rfl rfl λU J=>bcG G (λd9 G=>?_) λd9 G=>?_
     ·exact ng 4 d9 J rfl rfl λU J=>c6 (decide (a3<=a4)) G U w (J.sub _ rfl) X
     exact ng 4 d9 J rfl rfl λU J=>c6 false G U w (J.sub _ rfl) X
    exact xg 3 d8 J rfl rfl λU J=>xO 3 rfl J rfl λU J=>bE rfl J rfl λU J=>wpList_nil (c6 false G U w (J.sub _ rfl) X)
   exact xg 3 d7 J rfl rfl λU J=>xO 1 rfl J rfl λU J=>bE rfl J rfl λU J=>x_m J rfl λU J=>xO 3 rfl J rfl λU J=>bE rfl J rfl λU J=>wpList_nil (c6 false G U w (J.sub _ rfl) X)
  obtain⟨i4,i5,G⟩:=bnd G;have i6:∀O P Q R,(O,P,Q,R)=i4->∀b7 b8 b9 U w,FR 112 [] U [(0,.slice A0 n0 c0),(1,.int .u64 a1),(2,.int .u64 a2),(3,.int .i64 a3),(4,.int .i64 a4),(12,.slice b7 b8 b9),(13,.int .i64 c),(14,.int .i64 b),(15,.bool P),(16,.bool Q),(17,.bool R)]->SH r (own k61 61 b7 b8 b9 O::L) w->e9 U w:=by intro O P Q R ht b7 b8 b9 U w J X;subst ht;replace G:vD a3 a4 c b O P Q R=some N:=G;unfold vD at G;exact l5 O P Q R G b7 b8 b9 U w (J.sub _ rfl) X
  refine aS i5 (λs U w=>∃f g i,FR 112 [] U [(0,.slice A0 n0 c0),(1,.int .u64 a1),(2,.int .u64 a2),(3,.int .i64 a3),(4,.int .i64 a4),(12,.slice f g i),(13,.int .i64 c),(14,.int .i64 b),(15,.bool s.2.1),(16,.bool s.2.2.1),(17,.bool s.2.2.2.1),(18,.int .i64 s.2.2.2.2)]/\SH r (own k61 61 f g i s.1::L) w) ⟨I,K,M,J.sub _ rfl,X⟩ ?_;intro m5 i7 B G i8 i9 U w a6;obtain⟨k,c1,E,q,l⟩:=i7;replace G:lF a0 a1 a2 a3 a4 b k c1 E q l=some B:=G;unfold lF at G
  try dsimp only at a6
  obtain⟨f,g,i,J,X⟩:=a6;refine wp_seq_k λm6 j0=>wp_seq_k λj1 j2=>?_;have g0:∀e0,sD a0 a1 a2 a3 a4 k c1 E q l e0=some B->∀U w,FR 112 [] U [(0,.slice A0 n0 c0),(1,.int .u64 a1),(2,.int .u64 a2),(3,.int .i64 a3),(4,.int .i64 a4),(12,.slice f g i),(13,.int .i64 c),(14,.int .i64 b),(15,.bool c1),(16,.bool E),(17,.bool q),(18,.int .i64 l),(36,.bool e0)]->SH r (own k61 61 f g i k::L) w->j1 U w:=by
   intro e0 G U w J X;unfold sD at G;refine j2 _ _ (aX J G rfl (λj3 G=>?_) λj3 G=>?_)
   ·refine wp_skip (j0 _ _ ?_);refine wp_seq_k λm7 j4=>aA λj5 j6=>?_;have g1:∀e1 e2 e3 e4,sC l e1 e2 e3 e4=some B->∀c2 c3 c4 U w,FR 112 [] U [(0,.slice A0 n0 c0),(1,.int .u64 a1),(2,.int .u64 a2),(3,.int .i64 a3),(4,.int .i64 a4),(12,.slice c2 c3 c4),(13,.int .i64 c),(14,.int .i64 b),(15,.bool e2),(16,.bool e3),(17,.bool e4),(18,.int .i64 l)]->SH r (own k61 61 c2 c3 c4 e1::L) w->j5 U w:=by intro e1 e2 e3 e4 G c2 c3 c4 U w J X;unfold sC at G;refine j6 _ _ (j4 _ _ ?_);refine aC (x_m J rfl λU J=>?_);refine x_l G J rfl λm8 _ U J G=>x_m J rfl λU J=>wpList_nil ?_;cases G;exact⟨_,i8 _ rfl,c2,c3,c4,J.sub _ rfl,X⟩
    refine ws λm9 j7=>xk 2 J rfl λU J=>?_;obtain⟨a,f5,G⟩:=bnd G;refine fS gW hN (X.rdl 1 c5 rfl) f5 J rfl λU J=>?_;obtain⟨cs,hV,j8⟩:=el (X.rdl 1 c5 rfl) f5;obtain rfl:=hV;refine hJ (cs:=[.int .u64 a.f0,.int .i64 a.f1,.int .i64 a.f2,str a.f3,.float .f64 a.f4]) aCo hN (λj u h=>by rw [gQ];exact j8 _ _ h) J rfl λU J=>fD (cs:=[.int .u64 0,.int .i64 0,.int .i64 0,str [],.float .f64 0]) aN6 J X rfl λn U w X J=>eQ 0 hN J X rfl rfl λU w X J=>wn (j7 _ _ ?_);refine wp_seq_k λj9 k0=>?_;have e6:∀m,pM a1 a2 a3 a4 k E q l a m=some B->∀U w,FR 112 [] U [(0,.slice A0 n0 c0),(1,.int .u64 a1),(2,.int .u64 a2),(3,.int .i64 a3),(4,.int .i64 a4),(12,.slice f g i),(13,.int .i64 c),(14,.int .i64 b),(15,.bool m),(16,.bool E),(17,.bool q),(18,.int .i64 l),(19,(pP n))]->SH r (blk n 61 [.int .u64 a.f0,.int .i64 a.f1,.int .i64 a.f2,str a.f3,.float .f64 a.f4]::own k61 61 f g i k::L) w->j9 U w:=by
     intro m G U w J X;unfold pM at G;refine k0 _ _ (wp_seq_k λk1 k2=>?_);have g2:∀o,sE a1 a2 a3 a4 k q l a m o=some B->∀U w,FR 112 [] U [(0,.slice A0 n0 c0),(1,.int .u64 a1),(2,.int .u64 a2),(3,.int .i64 a3),(4,.int .i64 a4),(12,.slice f g i),(13,.int .i64 c),(14,.int .i64 b),(15,.bool m),(16,.bool o),(17,.bool q),(18,.int .i64 l),(19,(pP n))]->SH r (blk n 61 [.int .u64 a.f0,.int .i64 a.f1,.int .i64 a.f2,str a.f3,.float .f64 a.f4]::own k61 61 f g i k::L) w->k1 U w:=by
      intro o G U w J X;unfold sE at G;refine k2 _ _ (wp_seq_k λk3 k4=>?_);have g3:∀C,sF a1 a2 a3 a4 k l a m o C=some B->∀U w,FR 112 [] U [(0,.slice A0 n0 c0),(1,.int .u64 a1),(2,.int .u64 a2),(3,.int .i64 a3),(4,.int .i64 a4),(12,.slice f g i),(13,.int .i64 c),(14,.int .i64 b),(15,.bool m),(16,.bool o),(17,.bool C),(18,.int .i64 l),(19,(pP n))]->SH r (blk n 61 [.int .u64 a.f0,.int .i64 a.f1,.int .i64 a.f2,str a.f3,.float .f64 a.f4]::own k61 61 f g i k::L) w->k3 U w:=by
       intro C G U w J X;unfold sF at G;refine k4 _ _ (wp_seq_k λk5 k6=>?_);have c7:∀e5,nK k l a m o C e5=some B->∀U w,FR 112 [] U [(0,.slice A0 n0 c0),(1,.int .u64 a1),(2,.int .u64 a2),(3,.int .i64 a3),(4,.int .i64 a4),(12,.slice f g i),(13,.int .i64 c),(14,.int .i64 b),(15,.bool m),(16,.bool o),(17,.bool C),(18,.int .i64 l),(19,(pP n)),(91,.bool e5)]->SH r (blk n 61 [.int .u64 a.f0,.int .i64 a.f1,.int .i64 a.f2,str a.f3,.float .f64 a.f4]::own k61 61 f g i k::L) w->k5 U w:=by
        intro e5 G U w J X;unfold nK at G;refine k6 _ _ (aX J G rfl (λk7 G=>?_) λk7 G=>?_)
        ·refine aC (x_m J rfl λU J=>?_);refine hJ (ad:=⟨n,0,none⟩) (cs:=[.int .u64 a.f0,.int .i64 a.f1,.int .i64 a.f2,str a.f3,.float .f64 a.f4]) aCo hN (λj u h=>by rw [fT,Nat.zero_add];exact X.cell 0 rfl j u h) J rfl λU J=>jS (d:=k61) (e:=61) (ps:=#[(0,.agg #[.int .u64 a.f0,.int .i64 a.f1,.int .i64 a.f2,str a.f3,.float .f64 a.f4])]) (cells:=[.int .u64 a.f0,.int .i64 a.f1,.int .i64 a.f2,str a.f3,.float .f64 a.f4]) (xs:=[a]) (λw=>by kernel_rfl) rfl ⟨[.int .u64 a.f0,.int .i64 a.f1,.int .i64 a.f2,str a.f3,.float .f64 a.f4],_,rfl,rfl,rfl⟩ J X rfl λn1 U w X J=>?_;obtain⟨k8,G⟩:=aD G;have hr:=X.rd 0 rfl;refine kJ 2 aJp gW J X hr.1 hr.2.1 k8 rfl rfl λk9 l0 l1 U w X J=>x_m J rfl λU J=>wpList_nil ?_;replace X:=X.drop 1 |>.drop 1;exact g1 (k++[a]) m o C G k9 l0 l1 U w (J.sub _ rfl) X
        replace X:=X.drop 0;exact wp_skip (g1 k m o C G f g i U w (J.sub _ rfl) X)
       refine aC (aK iZ J rfl λU J=>?_);refine aL bM (X.cell 0 rfl 0 _ rfl) J rfl λU J=>xk 3 J rfl λU J=>bcG G (λS G=>?_) λS G=>?_
       ·refine aH S J ?_ rfl;refine aK iZ J rfl λU J=>aH S J ?_ rfl;refine aL bM (X.cell 0 rfl 0 _ rfl) J rfl λU J=>xg 4 S J rfl rfl λU J=>bcG G (λT G=>?_) λT G=>?_
        ·refine aH T J ?_ rfl;refine aK dU J rfl λU J=>aH T J ?_ rfl;refine aL uu2 (X.cell 0 rfl 2 _ rfl) J rfl λU J=>xg 4 T J rfl rfl λU J=>bcG G (λW G=>?_) λW G=>?_
         ·refine aH W J ?_ rfl;refine aK dU J rfl λU J=>aH W J ?_ rfl;exact aL uu2 (X.cell 0 rfl 2 _ rfl) J rfl λU J=>ng 3 W J rfl rfl λU J=>c7 (decide (a.f2<=a4)) G U w (J.sub _ rfl) X
         exact ng 5 W J rfl rfl λU J=>c7 false G U w (J.sub _ rfl) X
        exact xg 6 T J rfl rfl λU J=>xO 4 rfl J rfl λU J=>bE rfl J rfl λU J=>wpList_nil (c7 false G U w (J.sub _ rfl) X)
       exact xg 6 S J rfl rfl λU J=>xO 4 rfl J rfl λU J=>bE rfl J rfl λU J=>x_m J rfl λU J=>xO 4 rfl J rfl λU J=>bE rfl J rfl λU J=>wpList_nil (c7 false G U w (J.sub _ rfl) X)
      refine aC (xk 2 J rfl λU J=>?_);refine bcG G (λY G=>?_) λY G=>?_
      ·exact ng 6 Y J rfl rfl λU J=>g3 true G U w (J.sub _ rfl) X
      refine aH Y J ?_ rfl;refine aK dU J rfl λU J=>aH Y J ?_ rfl;exact aL uu2 (X.cell 0 rfl 2 _ rfl) J rfl λU J=>ng 4 Y J rfl rfl λU J=>g3 (decide (a3<=a.f2)) G U w (J.sub _ rfl) X
     refine aC (xk 2 J rfl λU J=>?_);refine bcG G (λZ G=>?_) λZ G=>?_
     ·exact ng 6 Z J rfl rfl λU J=>g2 true G U w (J.sub _ rfl) X
     refine aH Z J ?_ rfl;refine aK dU J rfl λU J=>aH Z J ?_ rfl;exact aL uu2 (X.cell 0 rfl 2 _ rfl) J rfl λU J=>ng 4 Z J rfl rfl λU J=>g2 (decide (a.f2<=a4)) G U w (J.sub _ rfl) X
    refine aC (xk 2 J rfl λU J=>?_);refine bcG G (λp G=>?_) λp G=>?_
    ·exact ng 12 p J rfl rfl λU J=>e6 true G U w (J.sub _ rfl) X
    refine aH p J ?_ rfl;refine aK iZ J rfl λU J=>aH p J ?_ rfl;refine aL bM (X.cell 0 rfl 0 _ rfl) J rfl λU J=>xg 3 p J rfl rfl λU J=>bcG G (λD G=>?_) λD G=>?_
    ·refine aH D J ?_ rfl;refine aK iZ J rfl λU J=>aH D J ?_ rfl;refine aL bM (X.cell 0 rfl 0 _ rfl) J rfl λU J=>xg 2 D J rfl rfl λU J=>aH p J ?_ rfl;exact xg 1 D J rfl rfl λU J=>ng 2 p J rfl rfl λU J=>e6 (decide (a.f0<a2)) G U w (J.sub _ rfl) X
    refine xg 4 D J rfl rfl λU J=>aH p J ?_ rfl;exact xg 1 D J rfl rfl λU J=>ng 2 p J rfl rfl λU J=>e6 false G U w (J.sub _ rfl) X
   cases G;exact wp_exit (i6 k c1 E q (i9 _ rfl) f g i U w (J.sub _ rfl) X)
  refine aC (xk 2 J rfl λU J=>?_);refine aW gW (X.rdl 1 c5 rfl).2.1 J rfl λU J=>xk 2 J rfl λU J=>bcG G (λa5 G=>?_) λa5 G=>?_
  ·refine xg 2 a5 J rfl rfl λU J=>aH a5 J ?_ rfl;exact x_l G J rfl λl2 _ U J G=>ng 2 a5 J rfl rfl λU J=>g0 (decide (l<l2)) G U w (J.sub _ rfl) X
  exact ng 5 a5 J rfl rfl λU J=>g0 false G U w (J.sub _ rfl) X
 cases G;exact wp_exit (g8 e8 c (h1 _ rfl) I K M U w (J.sub _ rfl) X)
end
noncomputable section
set_option linter.unusedSimpArgs false
def wO (b:(Int×(List Int)×Int×Int)) (a:Int):Option ((List Int)×Int) :=
  if (a != 0)=true then (some ([],a)) else (some (b.2.1,0))
def uA (a:(Int×(List Int)×Int×Int)) (b:Bool):Option ((List Int)×Int) :=
  if b=true then (wO a 3) else (wO a a.2.2.2)
def aCa (a0:(List Int)) (b:Int):Option ((List Int)×Int) :=
  (sA a0 0).bind λa=>(if (a.2.2.2==0)=true then (if (a.1 != b)=true then (uA a true) else (uA a (a.2.2.1 != (a0.length:Int)))) else (uA a false))
end
section
variable {r:World} {L:List HP} {w:World} {Z:Nat->Prop} {wz:World}
theorem aN8 {a0 a1 A0 n0 c0 y} (G:aCa a0 a1=some y) (X:SH r (L) w) (qz:Nat) (l:L[qz]?=some (zone Z wz)) (m:Imm Z wz (kI .u8) A0 n0 c0 a0) (F:Imm Z wz (kI .u32) (some ⟨0,0,none⟩) 16 16 bX) :
  Ret Tryz.prog 46 #[.slice A0 n0 c0,.int .u8 a1] w λv w'=>∃ (n:Option Addr) (o:Nat) (p:Nat),v=.tuple #[(.slice n o p),(.int .i64 y.2)]/\SH r (own (kI .u8) 5 n o p y.1::L) w':=by
 refine enter Tryz.func46 rfl Tryz.ntmps46 [(0,_),(1,_)] rfl (by simp) ?_;intro U J Qf q M;unfold aCa at G;refine nz 2 J rfl λU J=>ws λI t=>xk 1 J rfl λU J=>?_;obtain⟨a,u,G⟩:=bnd G;refine x_c aVt J rfl (zF u X (qz+0) l m F :) λv U w H J=>?_;obtain⟨f,g,h,rfl,X⟩:=H;refine nk 9 J rfl λU J=>t _ _ (wp_seq_k λx z=>?_);have s:∀i,wO a i=some y->∀U w,FR 34 [] U [(7,.slice f g h),(9,.int .i64 i)]->SH r (own (kI .u8) 5 f g h a.2.1::L) w->x U w:=by
  intro i G U w J X;unfold wO at G;refine z _ _ (wp_seq_k λK A=>?_);refine nz 2 J rfl λU J=>aX J G rfl (λB G=>?_) λB G=>?_
  ·refine nz 3 J rfl λU J=>?_;replace X:=(SH.nil_own (d:=(kI .u8)) (e:=5) X).drop 1;cases G;refine wp_ret (q _ _ ?_);exact lv2 Tryz.results46 J rfl rfl ⟨none,0,0,rfl,X⟩
  refine wp_skip (A _ _ ?_);refine nz 3 J rfl λU J=>?_;cases G;refine wp_ret (q _ _ ?_);exact lv2 Tryz.results46 J rfl rfl ⟨f,g,h,rfl,X⟩
 refine wp_seq_k λC D=>?_;have k:∀j,uA a j=some y->∀U w,FR 34 [] U [(7,.slice f g h),(9,.int .i64 a.2.2.2),(29,.bool j)]->SH r (own (kI .u8) 5 f g h a.2.1::L) w->C U w:=by
  intro j G U w J X;unfold uA at G;refine D _ _ (aX J G rfl (λE G=>?_) λE G=>?_)
  ·refine aC (x_m J rfl λU J=>?_);exact wpList_nil (s 3 G U w (J.sub _ rfl) X)
  exact wp_skip (s a.2.2.2 G U w (J.sub _ rfl) X)
 refine aC (xk 3 J rfl λU J=>?_);refine bcG G (λb G=>?_) λb G=>?_
 ·refine xg 4 b J rfl rfl λU J=>bcG G (λc G=>?_) λc G=>?_
  ·refine xg 4 c J rfl rfl λU J=>aH b J ?_ rfl;exact xg 1 c J rfl rfl λU J=>ng 1 b J rfl rfl λU J=>k true G U w (J.sub _ rfl) X
  refine xg 2 c J rfl rfl λU J=>aH c J ?_ rfl;refine aW cK (X.rdl 1 (m.rdl qz l) rfl).2.1 J rfl λU J=>xg 1 c J rfl rfl λU J=>aH b J ?_ rfl;exact xg 1 c J rfl rfl λU J=>ng 1 b J rfl rfl λU J=>k (a.2.2.1 != (a0.length:Int)) G U w (J.sub _ rfl) X
 exact ng 10 b J rfl rfl λU J=>k false G U w (J.sub _ rfl) X
end
noncomputable section
set_option linter.unusedSimpArgs false
def mD (a0:(List UInt8)) (a:(List UInt8)):Option (Bool) :=
  if (decide ((a.length:Int)<=(a0.length:Int)))=true then ((jX a0 0 (a.length:Int)).bind λb=>(some (b==a))) else (some false)
def nM (a0:(List UInt8)) (b:(List UInt8)):Option (Bool) :=
  (mD a0 b).bind λa=>(some a)
end
section
variable {r:World} {L:List HP} {w:World} {Z:Nat->Prop} {wz:World}
theorem aAa {a0 a1 y} (G:mD a0 a1=some y) (X:SH r (L) w) :
  Ret Tryz.prog 77 #[str a0,str a1] w λv w'=>v=.bool y/\SH r (L) w':=by
 refine enter Tryz.func77 rfl Tryz.ntmps77 [(0,_),(1,_)] rfl (by simp) ?_;intro U J Qf c g;unfold mD at G;refine nz 1 J rfl λU J=>ws λe b=>xk 1 J rfl λU J=>x_v J (aCi uu9 rfl (J.ev rfl)) rfl λU J=>x_m J rfl λU J=>x_v J (aCi uu9 rfl (J.ev rfl)) rfl λU J=>xk 2 J rfl λU J=>bcG G (λa G=>?_) λa G=>?_
 ·refine xg 2 a J rfl rfl λU J=>aH a J ?_ rfl;refine x_v J (aCi uu9 rfl (J.ev rfl)) rfl λU J=>aH a J ?_ rfl;obtain⟨f,d,G⟩:=bnd G;refine aUy uu9 d J rfl λU J=>xg 1 a J rfl rfl λU J=>aH a J ?_ rfl;refine x_v J (aJ8 rfl (J.ev rfl) (J.ev rfl)) rfl λU J=>ng 2 a J rfl rfl λU J=>?_;cases G;refine b _ _ (wp_ret ?_);refine c _ _ (lv Tryz.results77 J rfl ?_);exact⟨rfl,X⟩
 refine ng 8 a J rfl rfl λU J=>?_;cases G;refine b _ _ (wp_ret ?_);refine c _ _ (lv Tryz.results77 J rfl ?_);exact⟨rfl,X⟩
theorem aDl {a0 a1 y} (G:nM a0 a1=some y) (X:SH r (L) w) :
  Ret Tryz.prog 55 #[str a0,str a1] w λv w'=>v=.bool y/\SH r (L) w':=by
 refine enter Tryz.func55 rfl Tryz.ntmps55 [(0,_),(1,_)] rfl (by simp) ?_;intro U J Qf c g;unfold nM at G;refine nz 1 J rfl λU J=>ws λe a=>xk 2 J rfl λU J=>?_;obtain⟨f,b,G⟩:=bnd G;refine x_c bEt J rfl (aAa b X :) λv U w d J=>?_;obtain⟨rfl,X⟩:=d;refine x_m J rfl λU J=>wn (a _ _ ?_);cases G;refine wp_ret (c _ _ ?_);exact lv Tryz.results55 J rfl ⟨rfl,X⟩
end
end Go.Proofs.YtdkpjpoajlmmfaaGreatDoor.M
namespace Go.Proofs
open Go.Shelf
def Tryz.fuA_ren:Go.Shelf.Ren:=⟨fun | 283=>118 | n=>n,fun | 3=>3 | 9=>9 | 4=>4 | n=>n,fun | n=>n⟩
theorem Tryz.fuA:Go.Proofs.Lays.n283 Tryz.prog Tryz.fuA_ren:={
  mixed:=by kernel_rfl
  f283:=Tryz.func118.trans (congrArg some (by kernel_rfl))
  t3:=Tryz.underlying3
  a3:=Tryz.isAgg3
  z3:=Tryz.sizeOf3
  v3:=Tryz.zeroValue3
  t4:=Tryz.underlying4
  a4:=Tryz.isAgg4
  z4:=Tryz.sizeOf4
  v4:=Tryz.zeroValue4
  t9:=Tryz.underlying9
  a9:=Tryz.isAgg9
  z9:=Tryz.sizeOf9
  v9:=Tryz.zeroValue9 }
def Tryz.fuB_ren:Go.Shelf.Ren:=⟨fun | 284=>119 | 129=>134 | 317=>133 | 318=>135 | n=>n,fun | 53=>24 | 3=>3 | 212=>200 | 0=>0 | 4=>4 | 46=>125 | 5=>5 | 9=>9 | n=>n,fun | 17=>2 | n=>n⟩
theorem Tryz.fuB:Go.Proofs.LaysM.n284 Tryz.prog Tryz.fuB_ren:={
  mixed:=by kernel_rfl
  f129:=Tryz.func134.trans (congrArg some (by kernel_rfl))
  f284:=Tryz.func119.trans (congrArg some (by kernel_rfl))
  f317:=Tryz.func133.trans (congrArg some (by kernel_rfl))
  f318:=Tryz.func135.trans (congrArg some (by kernel_rfl))
  t0:=Tryz.underlying0
  a0:=Tryz.isAgg0
  z0:=Tryz.sizeOf0
  v0:=Tryz.zeroValue0
  t3:=Tryz.underlying3
  a3:=Tryz.isAgg3
  z3:=Tryz.sizeOf3
  v3:=Tryz.zeroValue3
  t4:=Tryz.underlying4
  a4:=Tryz.isAgg4
  z4:=Tryz.sizeOf4
  v4:=Tryz.zeroValue4
  t5:=Tryz.underlying5
  a5:=Tryz.isAgg5
  z5:=Tryz.sizeOf5
  v5:=Tryz.zeroValue5
  t9:=Tryz.underlying9
  a9:=Tryz.isAgg9
  z9:=Tryz.sizeOf9
  v9:=Tryz.zeroValue9
  t46:=Tryz.underlying125
  a46:=Tryz.isAgg125
  z46:=Tryz.sizeOf125
  v46:=Tryz.zeroValue125
  t53:=Tryz.underlying24
  a53:=Tryz.isAgg24
  z53:=Tryz.sizeOf24
  v53:=Tryz.zeroValue24
  t212:=Tryz.underlying200
  a212:=Tryz.isAgg200
  z212:=Tryz.sizeOf200
  v212:=Tryz.zeroValue200
  g17:=by kernel_rfl
  i0:=by kernel_rfl
  i3:=by kernel_rfl
  i4:=by kernel_rfl
  i5:=by kernel_rfl
  i9:=by kernel_rfl
  i46:=by kernel_rfl
  i53:=by kernel_rfl
  i212:=by kernel_rfl
  m17:=by kernel_rfl }
def Tryz.fuC_ren:Go.Shelf.Ren:=⟨fun | 285=>120 | n=>n,fun | 37=>23 | 53=>24 | 3=>3 | 4=>4 | 51=>67 | 9=>9 | 5=>5 | 0=>0 | n=>n,fun | n=>n⟩
theorem Tryz.fuC:Go.Proofs.Lays.n285 Tryz.prog Tryz.fuC_ren:={
  mixed:=by kernel_rfl
  f285:=Tryz.func120.trans (congrArg some (by kernel_rfl))
  t0:=Tryz.underlying0
  a0:=Tryz.isAgg0
  z0:=Tryz.sizeOf0
  v0:=Tryz.zeroValue0
  t3:=Tryz.underlying3
  a3:=Tryz.isAgg3
  z3:=Tryz.sizeOf3
  v3:=Tryz.zeroValue3
  t4:=Tryz.underlying4
  a4:=Tryz.isAgg4
  z4:=Tryz.sizeOf4
  v4:=Tryz.zeroValue4
  t5:=Tryz.underlying5
  a5:=Tryz.isAgg5
  z5:=Tryz.sizeOf5
  v5:=Tryz.zeroValue5
  t9:=Tryz.underlying9
  a9:=Tryz.isAgg9
  z9:=Tryz.sizeOf9
  v9:=Tryz.zeroValue9
  t37:=Tryz.underlying23
  a37:=Tryz.isAgg23
  z37:=Tryz.sizeOf23
  v37:=Tryz.zeroValue23
  t51:=Tryz.underlying67
  a51:=Tryz.isAgg67
  z51:=Tryz.sizeOf67
  v51:=Tryz.zeroValue67
  t53:=Tryz.underlying24
  a53:=Tryz.isAgg24
  z53:=Tryz.sizeOf24
  v53:=Tryz.zeroValue24 }
namespace YtdkpjpoajlmmfaaGreatDoor.M
open Go Go.RowKit Go.Proofs.YtdkpjpoajlmmfaaGreatDoor.E Go.Shelf
open Go.Lib (zeros24 zeros24_at)
open Go.Sort (Holds grow putRow alloc_eq_grow putRow_grow_new cell?_putRow)
set_option linter.unusedVariables false
set_option linter.unusedSimpArgs false
theorem hz0 (w:World) (T:TypeId) (nd:Nat) (hs:nd<=24):Holds (λ(b:UInt8)=>Value.int .u8 (b.toNat:Int)) (w.alloc (.cells zeros24 T)) w.heap.size 0 (Array.replicate nd (0:UInt8)):=λj a=>by
  have c:j<nd:=by simpa using a
  refine⟨?_,World.frozen?_alloc_new _ _ _ _⟩;rw [World.cell?_alloc_new,zeros24_at _ (by omega),getElem!_pos _ j a];simp
theorem bE4 (w:World) (o:Obj) (dk:Array UInt8) (k:Nat):∃ os,(putRow (λ(b:UInt8)=>Value.int .u8 (b.toNat:Int)) (w.alloc o) w.heap.size 0 dk).drewN k=grow (w.drewN k) os:=by rw [alloc_eq_grow];obtain⟨a,_,e⟩:=putRow_grow_new (λ(b:UInt8)=>Value.int .u8 (b.toNat:Int)) w #[o] w.heap.size 0 dk (Nat.le_refl _);exact⟨a,by rw [e];rfl⟩
theorem slA {P:Program} {o:Oper} {a:Act} {w:World} {T:TypeId} {x hi:Operand} {p q v:Value} (h:∀ W,(Instr.sliceAt T p none (some q) none).run P W=.ok v W) (b:o.op=.slice T x none (some hi) none) (hx:a.eval x=p) (c:a.eval hi=q):RunV P o a w v:=by unfold RunV execOp;rw [b];simp only [hx,c,Option.map_some,Option.map_none,Sem.run_bind,h];rfl
theorem cvA {P:Program} {o:Oper} {a:Act} {w:World} {T U:TypeId} {x:Operand} {p v:Value} (h:(convert T U p).run P w=.ok v w) (b:o.op=.convert T U x) (hx:a.eval x=p):RunV P o a w v:=by unfold RunV execOp;rw [b];simp only [hx,Sem.run_bind,h];rfl
section
variable {P:Program} {ops:Array Oper} {Q:Exit->Act->World->Prop} {o:Oper} {rest:List Oper} {a:Act} {w:World} {n t:Nat} {D:List Deferred} {F:List (Nat×Value)}
theorem aUw {T:TypeId} {cs:Array Value} {z:Value} (hz:(P.info? T).bind (·.zero)=some z) (hA:FR n D a F) (kk:∀ a',FR n D a' ((t,.pointer (some ⟨w.heap.size,0,none⟩))::F)->wpList P ops Q rest a' (w.alloc (.cells cs T)))
    (b:o.op=.alloc T) (c:z.cells=cs) (hd:o.dst=some t) (hg:o.guard=none) (ht:Nat.blt t n=true):wpList P ops Q (o::rest) a w :=
  lX hg λK hK=>by
    obtain⟨i,d,e⟩:=Option.bind_eq_some_iff.1 hz;have h:(execOp a.eval o).run P w=.ok (.value (.pointer (some ⟨w.heap.size,0,none⟩))) (w.alloc (.cells cs T)):=by unfold execOp;rw [b];simp [Instr.alloc,newVar,newRow,zeroValue,typeInfo,d,e,c]
    unfold Oper.wp;rw [h];exact hK _ _ (kk _ (by rw [hd];exact hA.put t _ (by have:=Nat.le_of_ble_eq_true ht;omega)))
end
set_option maxHeartbeats 4000000 in
set_option maxRecDepth 100000 in
theorem bE5 (n : Int) (h0 : 0 ≤ n) (X : n < 18446744073709551616) (w : World) (E : Lib.TabIs Tryz.prog w "internal/strconv.uint64pow10" .u64 Lib.pow10Tab) :
    Ret Tryz.prog 100 #[.int .u64 n,.int .i64 10] w λv w'=>v=str (Lib.itoa n)/\∃ k os,w'=grow (w.drewN k) os:=by
  obtain⟨u,rfl⟩:∃ u:Nat,n=u:=⟨n.toNat,by omega⟩;refine enter Tryz.func100 rfl Tryz.ntmps100 [(0,.int .u64 (u:Int)),(1,.int .i64 10)] rfl (by simp) ?_;intro ac hA Qf l Y;refine wp_seq_k λH r=>?_;refine aC ?_;refine eV hA (λac hA=>?_) rfl rfl rfl rfl rfl;refine wpList_nil ?_;refine r _ _ ?_;refine wp_seq_k λI J=>?_;refine wp_seq_k λK s=>?_;refine aC ?_;refine eB hA (λac hA=>?_) rfl rfl rfl rfl rfl;refine eG hA (zM rfl (hA.ev rfl) (hA.ev rfl)) (λac hA=>?_) rfl rfl rfl;refine wpList_nil ?_;refine s _ _ ?_;refine aK3 hA rfl (λi=>?_) λi=>?_
  rotate_left
  · cases i
  refine wp_seq_k λL t=>?_;refine wp_seq_k λM x=>?_;refine aC ?_;refine eB hA (λac hA=>?_) rfl rfl rfl rfl rfl;refine eG hA (aDu rfl (hA.ev rfl) (hA.ev rfl)) (λac hA=>?_) rfl rfl rfl;refine wpList_nil ?_;refine x _ _ ?_;refine aK3 hA rfl (λhs=>?_) λhs=>?_
  · have hs:u<100:=by have:=of_decide_eq_true hs;omega
    refine wp_seq_k λN y=>?_;refine aC ?_;refine eB hA (λac hA=>?_) rfl rfl rfl rfl rfl;refine eG (v:=.int .i64 (u:Int)) hA (dA (by rw [IntKind.wrap_i64];omega) (aR Tryz.underlying24 Tryz.underlying3 rfl (hA.ev rfl))) (λac hA=>?_) rfl rfl rfl;refine aI6 (R:=λv w'=>v=str (Lib.itoa u)/\w'=w) (aZ Tryz.func118 (by kernel_rfl) rfl) hA (Calls.mono (Any.internal_strconv_small Tryz.fuA u hs w) (by rintro e w' ⟨rfl,rfl⟩;exact⟨_,rfl,by rw [Lib.itoa_nonneg];rfl,rfl⟩)) (λv ac w' a hA=>?_) rfl rfl rfl rfl rfl;obtain⟨rfl,rfl⟩:=a;refine eV hA (λac hA=>?_) rfl rfl rfl rfl rfl;refine wpList_nil ?_;refine y _ _ ?_;refine wp_ret ?_;refine l _ _ ?_;refine lv Tryz.results100 hA rfl ?_;exact⟨rfl,0,#[],by simp [World.drewN_zero]⟩
  have hs:¬u<100:=by have:=of_decide_eq_false hs;omega
  have m:1<=u:=by omega
  have f:u<18446744073709551616:=by omega
  have O:Lib.nDigits u<=20:=by have:=Lib.numDigits_eq u m f;split at this <;> omega
  have o:Program.arrayLen Tryz.prog 182=24:=by simp [Program.arrayLen,Tryz.underlying182]
  have p:∀ W,(Instr.sliceAt 182 (.pointer (some ⟨w.heap.size,0,none⟩)) none (some (.int .i64 (Lib.nDigits u:Int))) none).run Tryz.prog W=.ok (.slice (some ⟨w.heap.size,0,none⟩) (Lib.nDigits u) 24) W:=λW=>by
    rw [run_sliceAt_array_h W 182 ⟨w.heap.size,0,none⟩ (by simp [Program.arrayLen,Program.elem,Tryz.underlying182]) .i64 (Lib.nDigits u:Int) (by omega) (by rw [o];omega)];have he:Program.elem Tryz.prog 182=5:=by simp [Program.elem,Tryz.underlying182]
    rw [he,Tryz.sizeOf5,o];simp [Result.andThen,slicedAt,Addr.add]
  have q:=Any.internal_strconv_formatBase10 Tryz.fuC w.heap.size 0 24 u (Array.replicate (Lib.nDigits u) 0) (w.alloc (.cells Lib.zeros24 182)) (hz0 w 182 (Lib.nDigits u) (by omega)) (by rw [Array.size_replicate];exact Lib.lt_pow_nDigits u) f (by rw [Array.size_replicate];omega);rw [Array.size_replicate] at q;have F:=hz0 w 182 (Lib.nDigits u) (by omega);refine wp_skip ?_;refine t _ _ ?_;refine wp_seq_k λQ A=>?_;refine aC ?_;refine aUw (cs:=Lib.zeros24) (z:=.agg Lib.zeros24) (by kernel_rfl) hA (λac hA=>?_) rfl rfl rfl rfl rfl;refine wpList_nil ?_;refine A _ _ ?_;refine wp_seq_k λS B=>?_;refine aC ?_;refine eB hA (λac hA=>?_) rfl rfl rfl rfl rfl;refine aI6 (R:=λv w'=>v=.int .i64 (Lib.nDigits u:Int)/\w'=w.alloc (.cells Lib.zeros24 182)) (aZ Tryz.func119 (by kernel_rfl) rfl) hA (Calls.mono (Any.internal_strconv_numDigits Tryz.fuB u m f _ (Lib.tabIs_alloc E _)) (by rintro e w' ⟨rfl,rfl⟩;exact⟨_,rfl,rfl,rfl⟩)) (λv ac w' a hA=>?_) rfl rfl rfl rfl rfl;obtain⟨rfl,rfl⟩:=a;refine eV hA (λac hA=>?_) rfl rfl rfl rfl rfl;refine wpList_nil ?_;refine B _ _ ?_;refine wp_seq_k λT C=>?_;refine aC ?_;refine eB hA (λac hA=>?_) rfl rfl rfl rfl rfl;refine eG hA (slA (λW=>p W) rfl (hA.ev rfl) (hA.ev rfl)) (λac hA=>?_) rfl rfl rfl;refine eB hA (λac hA=>?_) rfl rfl rfl rfl rfl;refine aI6 (R:=λv w'=>v=.tuple #[]/\∃ k d dk,w'=(putRow (λ(b:UInt8)=>Value.int .u8 (b.toNat:Int)) (w.alloc (.cells Lib.zeros24 182)) w.heap.size 0 dk).drewN k/\Lib.FmtInv (Lib.nDigits u) u 0 d dk) (aZ Tryz.func120 (by kernel_rfl) rfl) hA (Calls.mono q (by rintro e w' ⟨rfl,k,d,dk,rfl,c⟩;exact⟨_,rfl,rfl,k,d,dk,rfl,c⟩)) (λv ac w' a hA=>?_) rfl rfl rfl rfl rfl;obtain⟨rfl,k,d,dk,rfl,c⟩:=a;refine wpList_nil ?_;refine C _ _ ?_;refine wp_seq_k λU D=>?_;refine aC ?_;refine eB hA (λac hA=>?_) rfl rfl rfl rfl rfl;refine eG hA (slA (λW=>p W) rfl (hA.ev rfl) (hA.ev rfl)) (λac hA=>?_) rfl rfl rfl;have G:(convert 23 9 (.slice (some ⟨w.heap.size,0,none⟩) (Lib.nDigits u) 24)).run Tryz.prog ((putRow (λ(b:UInt8)=>Value.int .u8 (b.toNat:Int)) (w.alloc (.cells Lib.zeros24 182)) w.heap.size 0 dk).drewN k)=.ok (.string ⟨(Lib.decDigits u).toArray⟩) ((putRow (λ(b:UInt8)=>Value.int .u8 (b.toNat:Int)) (w.alloc (.cells Lib.zeros24 182)) w.heap.size 0 dk).drewN k):=by
    have h:=run_convert_bytes_back (P:=Tryz.prog) ((putRow (λ(b:UInt8)=>Value.int .u8 (b.toNat:Int)) (w.alloc (.cells Lib.zeros24 182)) w.heap.size 0 dk).drewN k) 23 9 5 ⟨w.heap.size,0,none⟩ 24 (Lib.decDigits u) Tryz.underlying23 Tryz.underlying5 Tryz.underlying9 (λj g=>by
      rw [Lib.row_is_numeral c j g,Lib.add_plain,World.cell?_drewN];exact cell?_putRow (λ(b:UInt8)=>Value.int .u8 (b.toNat:Int)) _ w.heap.size 0 _ dk F (by simp [c.size]) j (by rw [c.size];rw [Lib.decDigits_length] at g;exact g))
    rw [Lib.decDigits_length] at h;exact h
  refine eG (v:=str (Lib.decDigits u)) hA (cvA G rfl (hA.ev rfl)) (λac hA=>?_) rfl rfl rfl;refine eV hA (λac hA=>?_) rfl rfl rfl rfl rfl;refine wpList_nil ?_;refine D _ _ ?_;refine wp_ret ?_;refine l _ _ ?_;refine lv Tryz.results100 hA rfl ?_;obtain⟨os,eo⟩:=bE4 w (.cells Lib.zeros24 182) dk k;exact⟨by rw [Lib.itoa_nonneg],k,os,eo⟩
end YtdkpjpoajlmmfaaGreatDoor.M
end Go.Proofs
namespace Go.Proofs.YtdkpjpoajlmmfaaGreatDoor.M
open Go Go.RowKit Go.Proofs.YtdkpjpoajlmmfaaGreatDoor.E
set_option linter.unusedVariables false
noncomputable section
set_option linter.unusedSimpArgs false
def sP (a0:Int) (a:Int):Option ((List UInt8)) :=
  chk (0<=a0/\a0<18446744073709551616/\a=10) (some (Lib.itoa a0))
def jR (a0:Int) (b:Int):Option ((List UInt8)) :=
  (sP a0 b).bind λa=>(some a)
end
set_option maxRecDepth 100000
set_option maxHeartbeats 4000000
set_option linter.unusedSimpArgs false
section
variable {r:World} {L:List HP} {w:World} {Z:Nat->Prop} {wz:World}
theorem aBo {a0 a1 y} (G:sP a0 a1=some y) (X:SH r (L) w) (qz:Nat) (a:L[qz]?=some (zone Z wz)) (b:Gb Z wz 2 .u64 bK) :
  Ret Tryz.prog 100 #[.int .u64 a0,.int .i64 a1] w λv w'=>v=str y/\SH r (L) w':=by
 have q:=aD G;clear G;obtain⟨⟨h0,c,rfl⟩,G⟩:=q;cases G;refine Calls.mono (bE5 a0 h0 c w (Gb.tab ((show bK=Lib.pow10Tab from by decide)▸b) X qz a (by kernel_rfl))) ?_;rintro e w' ⟨v,rfl,rfl,k,os,rfl⟩;exact⟨_,rfl,rfl,(X.drewN k).grow os⟩
theorem wI {a0 a1 y} (G:jR a0 a1=some y) (X:SH r (L) w) (qz:Nat) (c:L[qz]?=some (zone Z wz)) (d:Gb Z wz 2 .u64 bK) :
  Ret Tryz.prog 75 #[.int .u64 a0,.int .i64 a1] w λv w'=>v=str y/\SH r (L) w':=by
 refine enter Tryz.func75 rfl Tryz.ntmps75 [(0,_),(1,_)] rfl (by simp) ?_;intro U J Qf e i;unfold jR at G;refine nz 1 J rfl λU J=>ws λg a=>xk 2 J rfl λU J=>?_;obtain⟨h,b,G⟩:=bnd G;refine x_c bAr J rfl (aBo b X (qz+0) c d :) λv U w f J=>?_;obtain⟨rfl,X⟩:=f;refine x_m J rfl λU J=>wn (a _ _ ?_);cases G;refine wp_ret (e _ _ ?_);exact lv Tryz.results75 J rfl ⟨rfl,X⟩
end
noncomputable section
set_option linter.unusedSimpArgs false
def eT (a0:(List (S98×Hd))) (c:Nat) (a:Int) (a2:(List (S98×Hd))):Option ((List (S98×Hd))) :=
  (jX a0 a (a0.length:Int)).bind λe=>(if ((a2.length:Int)==0)=true then (some a0) else (if (a==(a0.length:Int))=true then (chk (a0.length+a2.length<=140737488355328 / 48) (some (a0++a2))) else (ltt (IntKind.i64.wrap ((a0.length:Int)+(a2.length:Int))) λb=>(if (decide (((c:Nat):Int)<b))=true then ((jX a0 0 a).bind λl=>(ltt (IntKind.i64.wrap (b - a)) λi=>(chk (0<i/\c<a.toNat+i.toNat/\(a.toNat+i.toNat) * 48<=140737488355328) (ltt (l++List.replicate i.toNat (((⟨[],[],0⟩:S98),none,0,0):S98×Hd)) λf=>(chk (0<=a/\a<(f.length:Int)) (chk (0<(a2.take (min a2.length (f.length - a.toNat))).length/\(0+a.toNat)+(a2.take (min a2.length (f.length - a.toNat))).length<=f.length) (ltt (f.take (0+a.toNat)++a2.take (min a2.length (f.length - a.toNat))++f.drop ((0+a.toNat)+(a2.take (min a2.length (f.length - a.toNat))).length)) λg=>(ltt (IntKind.i64.wrap (a+(a2.length:Int))) λd=>(chk (0<=d/\d<(g.length:Int)) (chk (0<(e.take (min e.length (g.length - d.toNat))).length/\(0+d.toNat)+(e.take (min e.length (g.length - d.toNat))).length<=g.length) (ltt (g.take (0+d.toNat)++e.take (min e.length (g.length - d.toNat))++g.drop ((0+d.toNat)+(e.take (min e.length (g.length - d.toNat))).length)) λm=>(some m)))))))))))) else (chk (0<c) (chk (0<=b/\b<=(c:Int)) (ltt (IntKind.i64.wrap (a+(a2.length:Int))) λh=>(chk (0<=h/\h<((b.toNat:Nat):Int)/\b.toNat<=c) (chk (0<a2.length/\0<c) (chk (0<=h/\h<((b.toNat:Nat):Int)/\b.toNat<=c) (chk (0<=a/\a<((b.toNat:Nat):Int)/\b.toNat<=c) ((rdo (a0.map some++List.replicate (c - a0.length) none) (0+a.toNat) (min (b.toNat - a.toNat) (b.toNat - h.toNat))).bind λj=>(chk (0<j.length/\(0+h.toNat)+j.length<=c) (ltt ((a0.map some++List.replicate (c - a0.length) none).take (0+h.toNat)++j.map some++(a0.map some++List.replicate (c - a0.length) none).drop ((0+h.toNat)+j.length)) λk=>(chk (0<=a/\a<((b.toNat:Nat):Int)/\b.toNat<=c) (chk (0<(a2.take (min a2.length (b.toNat - a.toNat))).length/\(0+a.toNat)+(a2.take (min a2.length (b.toNat - a.toNat))).length<=c) (ltt (k.take (0+a.toNat)++(a2.take (min a2.length (b.toNat - a.toNat))).map some++k.drop ((0+a.toNat)+(a2.take (min a2.length (b.toNat - a.toNat))).length)) λn=>((rdo n 0 b.toNat).bind λo=>(some o)))))))))))))))))))
def eS (a0:(List (S98×Hd))) (b:Nat) (a:Int) (a2:Int):Option ((List (S98×Hd))) :=
  chk (0<=a/\a<=a2/\a2<=(a0.length:Int)/\(a0.length:Int)<=(a0.length:Int)) (if (a==a2)=true then (some a0) else (chk (0<b) (chk (0<=a/\a<=(b:Int)) (chk (0<=a2/\a2<=((a0.length:Nat):Int)/\a0.length<=b) ((rdo (a0.map some++List.replicate (b - a0.length) none) (0+a2.toNat) (a0.length - a2.toNat)).bind λd=>(chk (a.toNat+(a0.length - a2.toNat)<=b) (ltt ((a0.map some++List.replicate (b - a0.length) none).take a.toNat++d.map some++(a0.map some++List.replicate (b - a0.length) none).drop (a.toNat+(a0.length - a2.toNat))) λc=>(chk (0<=(((a.toNat+(a0.length - a2.toNat)):Nat):Int)/\(((a.toNat+(a0.length - a2.toNat)):Nat):Int)<(a0.length:Int)/\(a0.length:Int)<=((b:Nat):Int)) (chk (0<((a0.length:Int).toNat - (((a.toNat+(a0.length - a2.toNat)):Nat):Int).toNat)/\(0+(((a.toNat+(a0.length - a2.toNat)):Nat):Int).toNat)+((a0.length:Int).toNat - (((a.toNat+(a0.length - a2.toNat)):Nat):Int).toNat)<=b) (ltt (c.take (0+(((a.toNat+(a0.length - a2.toNat)):Nat):Int).toNat)++(List.replicate ((a0.length:Int).toNat - (((a.toNat+(a0.length - a2.toNat)):Nat):Int).toNat) (((⟨[],[],0⟩:S98),none,0,0):S98×Hd)).map some++c.drop ((0+(((a.toNat+(a0.length - a2.toNat)):Nat):Int).toNat)+((a0.length:Int).toNat - (((a.toNat+(a0.length - a2.toNat)):Nat):Int).toNat))) λe=>((rdo e 0 (a.toNat+(a0.length - a2.toNat))).bind λf=>(some f))))))))))))
end
section
variable {r:World} {L:List HP} {w:World} {Z:Nat->Prop} {wz:World}
theorem rN {a0 a a1 a2 h u A2 n2 c2 y} (G:eT a0 a a1 a2=some y) (X:SH r (own kp98 98 h u a a0::own kp98 98 A2 n2 c2 a2::L) w) :
  Ret Tryz.prog 91 #[.slice h u a,.int .i64 a1,.slice A2 n2 c2] w λv w'=>∃ (x:Option Addr) (z:Nat) (A:Nat),v=.slice x z A/\SH r (own kp98 98 x z A y::L) w':=by
 refine enter Tryz.func91 rfl Tryz.ntmps91 [(0,_),(1,_),(2,_)] rfl (by simp) ?_;intro U J Qf m g1;unfold eT at G;obtain rfl:=(X.rd 0 rfl).2.1;obtain rfl:=(X.rd 1 rfl).2.1;refine nz 1 J rfl λU J=>ws λd5 B=>xk 2 J rfl λU J=>?_;obtain⟨p,f,G⟩:=bnd G;refine x_v J (lN iE nY rfl (J.ev rfl) (J.ev rfl) (mJ (X.rd 0 rfl) f).1 (mJ (X.rd 0 rfl) f).2.2.2.2.2) rfl λU J=>wn (B _ _ ?_);refine ws λd6 C=>xk 1 J rfl λU J=>aW iE (X.rd 1 rfl).2.1 J rfl λU J=>x_m J rfl λU J=>wn (C _ _ ?_);refine wp_seq_k λd7 D=>nz 2 J rfl λU J=>aX J G rfl (λE G=>?_) λE G=>?_
 ·refine nz 2 J rfl λU J=>?_;replace X:=X.drop 1;cases G;refine wp_ret (m _ _ ?_);exact lv Tryz.results91 J rfl ⟨h,a0.length,a,rfl,X⟩
 refine wp_skip (D _ _ ?_);refine ws λd8 F=>xk 1 J rfl λU J=>aW iE (X.rd 0 rfl).2.1 J rfl λU J=>x_m J rfl λU J=>wn (F _ _ ?_);refine wp_seq_k λd9 H=>nz 3 J rfl λU J=>aX J G rfl (λI G=>?_) λI G=>?_
 ·refine ws λe0 M=>xk 2 J rfl λU J=>?_;obtain⟨N,G⟩:=aD G;have hr:=X.rd 1 rfl;refine kJ 0 aXx iE J X hr.1 hr.2.1 N rfl rfl λO P Q U w X J=>x_m J rfl λU J=>wn (M _ _ ?_);replace X:=X.drop 1;cases G;refine wp_ret (m _ _ ?_);exact lv Tryz.results91 J rfl ⟨O,P,Q,rfl,X⟩
 refine wp_skip (H _ _ ?_);refine wp_seq_k λe1 R=>ws λe2 S=>xk 2 J rfl λU J=>x_l G J rfl λc q U J G=>x_m J rfl λU J=>x_v J (aT7 iE rfl (J.ev rfl)) rfl λU J=>nk 1 J rfl λU J=>S _ _ (aX J G rfl (λT G=>?_) λT G=>?_)
 ·refine ws λe3 W=>xk 2 J rfl λU J=>?_;obtain⟨e4,i,G⟩:=bnd G;refine x_v J (mQ iE nY rfl (J.ev rfl) (J.ev rfl) (mJ (X.rd 0 rfl) i).2.2.2.2.1 (mJ (X.rd 0 rfl) i).2.2.1) rfl λU J=>xk 2 J rfl λU J=>x_v (v:=.int .i64 c) J (dA q (kR rfl (J.ev rfl) (J.ev rfl))) rfl λU J=>x_m J rfl λU J=>x_l G J rfl λj _ U J G=>?_;obtain⟨Y,G⟩:=aD G;refine aZ0 (((⟨[],[],0⟩:S98),none,0,0):S98×Hd) iE uu3 aXx rfl J X (bCp (X.rd 0 rfl) i).1 (bCp (X.rd 0 rfl) i).2.1 Y rfl λk l U w X J=>?_;obtain⟨Z,a3,G⟩:=gV G;rw [← a3] at X;refine x_m J rfl λU J=>wn (W _ _ ?_);refine ws λe5 a4=>xk 2 J rfl λU J=>?_;obtain⟨a5,G⟩:=aD G;have n:=X.rd 0 rfl;refine x_v (v:=.slice (some ⟨k,(0+a1.toNat) * 3,none⟩) ((a1.toNat+j.toNat) - a1.toNat) (l - a1.toNat)) J (aDd (lo:=0) iE nY rfl (J.ev rfl) (J.ev rfl) ⟨a5.1,by have:=n.2.1;omega,n.2.2.1⟩) rfl λU J=>x_m J rfl λU J=>?_;obtain⟨a6,G⟩:=aD G;refine aZ3 (lo:=(0+a1.toNat)) (zs:=a2.take (min a2.length (Z.length - a1.toNat))) 0 iE nY J X (Rd.take_ (X.rd 2 rfl).1 _) (cpk (X.rd 2 rfl).2.1 (by have:=n.2.1;omega)) a6 rfl rfl λe6 U w X J=>?_;obtain⟨a7,a8,G⟩:=gV G;rw [← a8] at X;refine wn (a4 _ _ ?_);refine wp_seq_k λe7 a9=>wD [0,0,0,6,15,0,0,96,255] [8] rfl J X (by kernel_rfl) λw X=>?_;obtain⟨g,b1,G⟩:=gV G;obtain⟨b2,G⟩:=aD G;have o:=X.rd 0 rfl;refine⟨[(0,.slice (some ⟨k,0,none⟩) (a1.toNat+j.toNat) l),(1,.int .i64 a1),(2,.int .i64 (a2.length:Int)),(3,.int .i64 g),(4,.slice (some ⟨k,(0+g.toNat) * 3,none⟩) ((a1.toNat+j.toNat) - g.toNat) (l - g.toNat)),(5,.slice h a0.length a),(6,.int .i64 a1),(7,.slice (if a=a1.toNat then h else h.map (·.add (a1.toNat * 3))) (a0.length - a1.toNat) (a - a1.toNat))],?_⟩
  refine dF [0,1,2,3,4,5,6,7] [8] (by kernel_rfl) ⟨pm rfl,pm rfl,pm rfl,pt [(47,_),(48,_)] rfl λU J=>dA b1 (kR rfl (J.ev rfl) (J.ev rfl)),pt [(46,_),(49,_)] rfl λU J=>aDd (lo:=0) iE nY rfl (J.ev rfl) (J.ev rfl) ⟨b2.1,by have:=o.2.1;omega,o.2.2.1⟩,pm rfl,pm rfl,pt [(51,_),(52,_)] rfl (λU J=>lN iE nY rfl (J.ev rfl) (J.ev rfl) (mJ (X.rd 1 rfl) f).1 (mJ (X.rd 1 rfl) f).2.2.2.2.2),trivial⟩ ⟨et [(50,_),(53,_)] rfl (λU J K hK=>?_),trivial⟩;obtain⟨b3,G⟩:=aD G;refine bAa (lo:=(0+g.toNat)) (zs:=p.take (min p.length (a7.length - g.toNat))) 0 iE nY J X (Rd.take_ (bCq (X.rd 1 rfl) f).1 _) (cpk (bCq (X.rd 1 rfl) f).2.1 (by have:=o.2.1;omega)) b3 rfl rfl λe8 w X=>?_;obtain⟨e9,b4,G⟩:=gV G;rw [← b4] at X;refine hK _ [] _ rfl (rC [] (by kernel_rfl) trivial ⟨by kernel_rfl,by kernel_rfl⟩ [(9,_)] rfl (λU J=>?_));refine a9 _ _ (nz 2 J rfl λU J=>?_);replace X:=X.drop 1 |>.drop 1;cases G;refine wp_ret (m _ _ ?_);exact lv Tryz.results91 J rfl ⟨some ⟨k,0,none⟩,a1.toNat+j.toNat,l,rfl,X⟩
 refine wp_skip (R _ _ ?_);refine wp_seq_k λf0 b5=>?_;obtain⟨b6,G⟩:=aD G;have d4:=aEw b6 X;clear X;obtain⟨e,rfl,X⟩:=d4;refine aC (xk 3 J rfl λU J=>?_);refine x_v (v:=.int .i64 c) J (dA q (kR rfl (J.ev rfl) (J.ev rfl))) rfl λU J=>?_;obtain⟨s,G⟩:=aD G;refine x_v J (mQ iE nY rfl (J.ev rfl) (J.ev rfl) s.1 s.2) rfl λU J=>x_m J rfl λU J=>wn (b5 _ _ ?_);refine wp_seq_k λf1 f2=>ws λf3 b7=>xk 4 J rfl λU J=>x_l G J rfl λd b8 U J G=>?_;obtain⟨b9,G⟩:=aD G;refine x_v (v:=.slice (some ⟨e,(0+d.toNat) * 3,none⟩) (c.toNat - d.toNat) (a - d.toNat)) J (aDd (lo:=0) iE nY rfl (J.ev rfl) (J.ev rfl) b9) rfl λU J=>?_;obtain⟨c0,G⟩:=aD G;refine x_v (v:=.bool false) J (aZq (aZm (aTt iE nY X 1 0 rfl rfl (by decide) c0)) rfl (evs J rfl)) rfl λU J=>nk 1 J rfl λU J=>b7 _ _ (c_t (b:=true) rfl J ?_ rfl);refine wp_seq_k λf4 c1=>wD [0,0,0,6,15,0,0,96,255] [8] rfl J X (by kernel_rfl) λw X=>?_;obtain⟨c3,G⟩:=aD G;obtain⟨c4,G⟩:=aD G;refine⟨[(0,.slice (some ⟨e,0,none⟩) c.toNat a),(1,.int .i64 a1),(2,.int .i64 (a2.length:Int)),(3,.int .i64 d),(4,.slice (some ⟨e,(0+d.toNat) * 3,none⟩) (c.toNat - d.toNat) (a - d.toNat)),(5,.slice (some ⟨e,0,none⟩) c.toNat a),(6,.int .i64 a1),(7,.slice (some ⟨e,(0+a1.toNat) * 3,none⟩) (c.toNat - a1.toNat) (a - a1.toNat))],?_⟩;refine dF [0,1,2,3,4,5,6,7] [8] (by kernel_rfl) ⟨pm rfl,pm rfl,pm rfl,pt [(70,_),(71,_)] rfl λU J=>dA b8 (kR rfl (J.ev rfl) (J.ev rfl)),pt [(69,_),(72,_)] rfl λU J=>aDd (lo:=0) iE nY rfl (J.ev rfl) (J.ev rfl) c3,pm rfl,pm rfl,pt [(74,_),(75,_)] rfl λU J=>aDd (lo:=0) iE nY rfl (J.ev rfl) (J.ev rfl) c4,trivial⟩ ⟨et [(73,_),(76,_)] rfl (λU J K hK=>?_),trivial⟩;obtain⟨c5,t,G⟩:=bnd G;obtain⟨c6,G⟩:=aD G;refine bAb (lo:=(0+d.toNat)) (zs:=c5) 0 iE nY J X (aUf (lo:=(0+a1.toNat)) X 0 rfl (aCj t).2.1) (aCj t).1 c6 rfl rfl λf5 w X=>?_;obtain⟨f6,c7,G⟩:=gV G;rw [← c7] at X;refine hK _ [] _ rfl (rC [] (by kernel_rfl) trivial ⟨by kernel_rfl,by kernel_rfl⟩ [(0,_),(1,_),(2,_)] rfl (λU J=>?_));refine c1 _ _ (ws λf7 c8=>?_);refine xk 2 J rfl λU J=>?_;obtain⟨c9,G⟩:=aD G;refine x_v (v:=.slice (some ⟨e,(0+a1.toNat) * 3,none⟩) (c.toNat - a1.toNat) (a - a1.toNat)) J (aDd (lo:=0) iE nY rfl (J.ev rfl) (J.ev rfl) c9) rfl λU J=>x_m J rfl λU J=>?_;obtain⟨d1,G⟩:=aD G;refine aZ4 (lo:=(0+a1.toNat)) (zs:=a2.take (min a2.length (c.toNat - a1.toNat))) 0 iE nY J X (Rd.take_ (X.rd 1 rfl).1 _) (cpk (X.rd 1 rfl).2.1 rfl) d1 rfl rfl λf8 U w X J=>?_;obtain⟨f9,d2,G⟩:=gV G;rw [← d2] at X;refine wn (c8 _ _ ?_);refine nz 2 J rfl λU J=>?_;obtain⟨g0,d3,G⟩:=bnd G;replace X:=(aLw X d3).drop 1;cases G;refine wp_ret (m _ _ ?_);exact lv Tryz.results91 J rfl ⟨some ⟨e,0,none⟩,c.toNat,a,rfl,X⟩
theorem rM {a0 a a1 a2 e h y} (G:eS a0 a a1 a2=some y) (X:SH r (own kp98 98 e h a a0::L) w) :
  Ret Tryz.prog 80 #[.slice e h a,.int .i64 a1,.int .i64 a2] w λv w'=>∃ (i:Option Addr) (j:Nat) (k:Nat),v=.slice i j k/\SH r (own kp98 98 i j k y::L) w':=by
 refine enter Tryz.func80 rfl Tryz.ntmps80 [(0,_),(1,_),(2,_)] rfl (by simp) ?_;intro U J Qf l S;unfold eS at G;obtain rfl:=(X.rd 0 rfl).2.1;refine nz 1 J rfl λU J=>ws λF n=>xk 4 J rfl λU J=>aW iE (X.rd 0 rfl).2.1 J rfl λU J=>?_;obtain⟨c,G⟩:=aD G;refine x_v J (aGl iE nY rfl (J.ev rfl) (J.ev rfl) (J.ev rfl) (J.ev rfl) ⟨c.1,c.2.1,c.2.2.1,by have:=(X.rd 0 rfl).2;omega⟩) rfl λU J=>wn (n _ _ ?_);refine wp_seq_k λH o=>nz 3 J rfl λU J=>aX J G rfl (λp G=>?_) λp G=>?_
 ·refine nz 2 J rfl λU J=>?_;cases G;refine wp_ret (l _ _ ?_);exact lv Tryz.results80 J rfl ⟨e,a0.length,a,rfl,X⟩
 refine wp_skip (o _ _ ?_);refine ws λI q=>xk 1 J rfl λU J=>aW iE (X.rd 0 rfl).2.1 J rfl λU J=>x_m J rfl λU J=>wn (q _ _ ?_);refine wp_seq_k λM s=>?_;obtain⟨t,G⟩:=aD G;have E:=aEw t X;clear X;obtain⟨b,rfl,X⟩:=E;refine wD [0,0,3,0,0,24,63,127] [6] rfl J X (by kernel_rfl) λw X=>?_;obtain⟨f,G⟩:=aD G;obtain⟨d,G⟩:=aD G;refine⟨[(0,.slice (some ⟨b,0,none⟩) a0.length a),(1,.int .i64 a1),(2,.slice (some ⟨b,0,none⟩) a1.toNat a),(3,.slice (some ⟨b,0,none⟩) a0.length a),(4,.int .i64 a2),(5,.slice (if a=a2.toNat then (some ⟨b,0,none⟩) else (some (⟨b,0,none⟩:Addr)).map (·.add (a2.toNat * 3))) (a0.length - a2.toNat) (a - a2.toNat))],?_⟩
 refine dF [0,1,2,3,4,5] [6] (by kernel_rfl) ⟨pm rfl,pm rfl,pt [(20,_),(21,_)] rfl (λU J=>mQ iE nY rfl (J.ev rfl) (J.ev rfl) f.1 f.2),pm rfl,pm rfl,pt [(23,_),(24,_)] rfl (λU J=>lN iE nY rfl (J.ev rfl) (J.ev rfl) d.1 d.2.1),trivial⟩ ⟨et [(22,_),(25,_)] rfl (λU J K hK=>?_),trivial⟩;obtain⟨N,g,G⟩:=bnd G;obtain⟨u,G⟩:=aD G;refine aZ8 0 iE nY J X (aWh (lo:=0) (L0:=a2.toNat) (m:=a0.length) X 0 rfl g ⟨rfl,d.2.2⟩) (aCj g).1 u rfl rfl λw X=>?_;obtain⟨O,x,G⟩:=gV G;rw [← x] at X;refine hK _ [(7,.slice (some ⟨b,0,none⟩) (a1.toNat+(a0.length - a2.toNat)) a)] _ rfl (dZ [7] (by kernel_rfl) ⟨pm rfl,trivial⟩ [(0,_),(7,_)] rfl (λU J=>?_));refine s _ _ (ws λP z=>?_);refine xk 2 J rfl λU J=>x_v J (aCh iE rfl (J.ev rfl)) rfl λU J=>x_m J rfl λU J=>?_;obtain⟨A,G⟩:=aD G;refine x_v (v:=.slice (some ⟨b,(0+(((a1.toNat+(a0.length - a2.toNat)):Nat):Int).toNat) * 3,none⟩) ((a0.length:Int).toNat - (((a1.toNat+(a0.length - a2.toNat)):Nat):Int).toNat) (a - (((a1.toNat+(a0.length - a2.toNat)):Nat):Int).toNat)) J (aUb (lo:=0) iE nY rfl (J.ev rfl) (J.ev rfl) (J.ev rfl) A) rfl λU J=>?_;obtain⟨B,G⟩:=aD G;refine aWz (lo:=(0+(((a1.toNat+(a0.length - a2.toNat)):Nat):Int).toNat)) (z0:=(((⟨[],[],0⟩:S98),none,0,0):S98×Hd)) 0 iE aW9 rfl J X B rfl rfl λU w X J=>?_;obtain⟨Q,C,G⟩:=gV G;rw [← C] at X;refine wn (z _ _ ?_);refine nz 2 J rfl λU J=>?_;obtain⟨R,D,G⟩:=bnd G;replace X:=aLw X D;cases G;refine wp_ret (l _ _ ?_);exact lv Tryz.results80 J rfl ⟨some ⟨b,0,none⟩,a1.toNat+(a0.length - a2.toNat),a,rfl,X⟩
end
theorem aMw {α:Type} {xs:List α} {l u:Nat} (h:l<=u) (hu:u<=xs.length):jX xs (l:Int) (u:Int)=some ((xs.take u).drop l):=by unfold jX;rw [if_pos (by omega)];simp
theorem gO {α:Type} {p:Prop} [Decidable p] {x:Option α} (h:p):chk p x=x:=if_pos h
theorem aZz {n:Int} (h : -9223372036854775808<=n) (a:n<=9223372036854775807):IntKind.i64.wrap n=n:=IntWalk.i64_in n ⟨h,a⟩
theorem bB9 {α β:Type} (e:α) (f:α->Option β):ltt e f=f e:=rfl
section
variable {α:Type}
theorem aE3 (A C:List (Option α)) (B:List α) {lo k:Nat} (hlo:A.length=lo) (hk:B.length=k):rdo (A++(B.map some++C)) lo k=some B:=by unfold rdo;rw [if_pos (by simp;omega), ← hlo,List.drop_left, ← hk,show B.length=(B.map some).length by simp,List.take_left,aNw]
theorem aRb (A B:List α) {k:Nat} (m:Nat) (h:A.length=k):(A++B).drop (k+m)=B.drop m:=by subst h;rw [List.drop_append,List.drop_of_length_le (by omega),List.nil_append,Nat.add_sub_cancel_left]
theorem aDh (A B:List α) {k:Nat} (h:A.length=k):(A++B).take k=A:=by subst h;exact List.take_left
theorem aOk (A B:List α) {k:Nat} (h:A.length=k):(A++B).drop k=B:=by subst h;exact List.drop_left
end
theorem aV2 (P D ys:List (S98×Hd)) (a:Nat) (hk:P.length+D.length<=a) (hb:(P.length+D.length+ys.length) * 48<=140737488355328) (hm:0<ys.length) :
    eT (P++D) a (P.length:Int) ys=some (P++ys++D):=by
  unfold eT;have hl:(P++D).length=P.length+D.length:=List.length_append;have c1:=aMw (xs:=P++D) (l:=P.length) (u:=(P++D).length) (by omega) (Nat.le_refl _);rw [List.take_length,List.drop_left] at c1;rw [c1];simp only [Option.bind_some,bB9];rw [if_neg (by simp only [beq_iff_eq];omega)];by_cases d:D=[]
  · subst d
    rw [if_pos (by simp),gO (by rw [hl];simp only [List.length_nil] at hb ⊢;omega)];simp
  have v:0<D.length:=List.length_pos_iff.2 d;rw [if_neg (by simp only [beq_iff_eq,hl];omega),hl,aZz (n:=((P.length+D.length:Nat):Int)+(ys.length:Int)) (by omega) (by omega),
    show ((P.length+D.length:Nat):Int)+(ys.length:Int)=((P.length+D.length+ys.length:Nat):Int) by omega]
  have e:IntKind.i64.wrap ((P.length:Int)+(ys.length:Int))=((P.length+ys.length:Nat):Int):=by rw [aZz (by omega) (by omega)];omega
  have f:IntKind.i64.wrap (((P.length+D.length+ys.length:Nat):Int) - (P.length:Int))=((D.length+ys.length:Nat):Int):=by rw [aZz (by omega) (by omega)];omega
  rw [e,f];simp only [Int.toNat_natCast,Nat.zero_add];by_cases hg:a<P.length+D.length+ys.length
  · rw [if_pos (by simp only [decide_eq_true_eq];omega)]
    have c2:=aMw (xs:=P++D) (l:=0) (u:=P.length) (by omega) (by omega);rw [List.take_left,List.drop_zero,show ((0:Nat):Int)=0 from rfl] at c2;rw [c2];simp only [Option.bind_some];generalize (((⟨[],[],0⟩:S98),none,0,0):S98×Hd)=z;have g:(P++List.replicate (D.length+ys.length) z).length=P.length+D.length+ys.length:=by simp;omega
    have b:ys.take (min ys.length (P.length+D.length+ys.length - P.length))=ys:=List.take_of_length_le (by omega);have h:(P++List.replicate (D.length+ys.length) z).take P.length++ys++(P++List.replicate (D.length+ys.length) z).drop (P.length+ys.length)=P++ys++List.replicate D.length z:=by rw [List.take_left,aRb _ _ _ rfl,List.drop_replicate];congr 2;omega
    rw [gO (by omega),g,b,gO (by omega),gO (by omega),h];have i:(P++ys++List.replicate D.length z).length=P.length+D.length+ys.length:=by simp;omega
    rw [i,gO (by omega)];have j:D.take (min D.length (P.length+D.length+ys.length - (P.length+ys.length)))=D:=List.take_of_length_le (by omega);rw [j,gO (by omega),aDh (P++ys) _ (by simp),List.drop_of_length_le (by omega),List.append_nil]
  · rw [if_neg (by simp only [decide_eq_true_eq];omega),gO (by omega),gO (by omega),gO (by omega),gO (by omega),gO (by omega),gO (by omega)]
    have m:(P++D).map some++List.replicate (a - (P.length+D.length)) none=P.map some++(D.map some++List.replicate (a - (P.length+D.length)) none):=by simp
    rw [m,aE3 (P.map some) _ D (by simp) (by omega)];simp only [Option.bind_some];have b:ys.take (min ys.length (P.length+D.length+ys.length - P.length))=ys:=List.take_of_length_le (by omega);rw [gO (by omega),gO (by omega),b,gO (by omega)];generalize o:List.replicate (a - (P.length+D.length)) (none:Option (S98×Hd))=N;have p:N.length=a - (P.length+D.length):=by rw [← o];simp
    obtain⟨O,c⟩:∃ O,O=P.map some++(D.map some++N):=⟨_,rfl⟩;rw [← c];have w:O.length=a:=by rw [c];simp [p];omega
    have q:(O.take (P.length+ys.length)).length=P.length+ys.length:=by rw [List.length_take];omega
    have r:(O.take (P.length+ys.length)++D.map some++O.drop (P.length+ys.length+D.length)).take P.length=P.map some:=by rw [List.append_assoc,List.take_append_of_le_length (by omega),List.take_take,Nat.min_eq_left (by omega),c,aDh _ _ (by simp)]
    have s:(O.take (P.length+ys.length)++D.map some++O.drop (P.length+ys.length+D.length)).drop (P.length+ys.length)=D.map some++O.drop (P.length+ys.length+D.length):=by rw [List.append_assoc,aOk _ _ q]
    rw [r,s];have t:P.map some++ys.map some++(D.map some++O.drop (P.length+ys.length+D.length))=[]++((P++ys++D).map some++O.drop (P.length+ys.length+D.length)):=by simp
    rw [t,aE3 [] _ (P++ys++D) (lo:=0) (k:=P.length+D.length+ys.length) rfl (by simp;omega)];rfl
theorem aVm (P D:List (S98×Hd)) (x:S98×Hd) (a:Nat) (hk:P.length+1+D.length<=a) (hb:a<=9223372036854775807) :
    eS (P++x::D) a (P.length:Int) ((P.length:Int)+1)=some (P++D):=by
  unfold eS;have hl:(P++x::D).length=P.length+1+D.length:=by simp;omega
  have c:((P.length:Int)+1).toNat=P.length+1:=by omega
  rw [hl,c,gO (by omega),if_neg (by simp;omega),gO (by omega),gO (by omega),gO (by omega)];simp only [Int.toNat_natCast,Nat.zero_add,bB9];rw [show P.length+1+D.length - (P.length+1)=D.length by omega];generalize d:List.replicate (a - (P.length+1+D.length)) (none:Option (S98×Hd))=N;have e:N.length=a - (P.length+1+D.length):=by rw [← d];simp
  have f:(P++x::D).map some++N=(P.map some++[some x])++(D.map some++N):=by simp
  rw [f,aE3 (P.map some++[some x]) N D (by simp) rfl];simp only [Option.bind_some];obtain⟨O,b⟩:∃ O,O=(P.map some++[some x])++(D.map some++N):=⟨_,rfl⟩;rw [← b];have j:O.length=a:=by rw [b];simp [e];omega
  have g:O.take P.length=P.map some:=by rw [b,List.append_assoc,aDh _ _ (by simp)]
  rw [g,gO (by omega),gO (by omega),show P.length+1+D.length - (P.length+D.length)=1 by omega,gO (by omega)];have h:((P.map some++D.map some++O.drop (P.length+D.length)).take (P.length+D.length))=(P++D).map some:=by rw [aDh _ _ (by simp)];simp
  rw [h];have i:∀ X Y:List (Option (S98×Hd)),(P++D).map some++X++Y=[]++((P++D).map some++(X++Y)):=by intro X Y;simp
  rw [i,aE3 [] _ (P++D) (lo:=0) (k:=P.length+D.length) rfl (by simp)];rfl
section
variable {r w:World} {L:List HP} {α β:Type} {d:Kd β} {e':TypeId} {g:α->List β}
theorem aBd:∀ {ps qs:List (α×Hd)} {L:List HP} {S:Nat->Prop},Sep (uG d e' g ps::uG d e' g qs::L) w S->Sep (uG d e' g (ps++qs)::L) w S
  | [],qs,L,S,h=>by have a:Sep ([]++(uG d e' g qs::L)) w S:=Sep.unstar (Ls:=[]) h;exact a
  | p::ps,qs,L,S,h=>qH.2 ((qH.1 h).tl λS hS=>aBd hS)
theorem aGo:∀ {ps qs:List (α×Hd)} {L:List HP} {S:Nat->Prop},Sep (uG d e' g (ps++qs)::L) w S->Sep (uG d e' g ps::uG d e' g qs::L) w S
  | [],qs,L,S,h=>Sep.star (Ls:=[]) h
  | p::ps,qs,L,S,h=>qH.2 ((qH.1 h).tl λS hS=>aGo hS)
end
abbrev oF (A:Option Addr) (n c:Nat) (xs:List S98):HP:=own2 kp98 (kI .u8) 5 (λx:S98=>x.f1) 98 A n c xs
def aOw (xs:List S98) (i:Int) (ys:List S98):Option (List S98):=if 0<=i/\i<=(xs.length:Int)/\0<ys.length/\(xs.length+ys.length) * 48<=140737488355328 then some (xs.take i.toNat++ys++xs.drop i.toNat) else none
def aVl (xs:List S98) (i j:Int):Option (List S98):=if 0<=i/\i<(xs.length:Int)/\j=i+1 then some (xs.eraseIdx i.toNat) else none
theorem aXe {r w:World} {L:List HP} (xs:List S98) (i:Int) (ys:List S98) {A B:Option Addr} {n c m c2:Nat} {y:List S98} (a:aOw xs i ys=some y) (hS:SH r (oF A n c xs::oF B m c2 ys::L) w) :
    Ret Tryz.prog 91 #[.slice A n c,.int .i64 i,.slice B m c2] w λv w'=>∃ (b:Option Addr) (d f:Nat),v=.slice b d f/\SH r (oF b d f y::L) w':=by
  unfold aOw at a;split at a
  · rename_i hi
    cases a;obtain⟨ps,g,l⟩:=aFv hS;have o:SH r (oF B m c2 ys::own kp98 98 A n c ps::uG (kI .u8) 5 (λx:S98=>x.f1) ps::L) w:=l.sh λS hS=>(hS.tl λS hS=>hS.swap).swap;obtain⟨qs,h,p⟩:=aFv o;have j:SH r (own kp98 98 A n c ps::own kp98 98 B m c2 qs::uG (kI .u8) 5 (λx:S98=>x.f1) ps::uG (kI .u8) 5 (λx:S98=>x.f1) qs::L) w:=p.sh λS hS =>
      (hS.tl λS hS=>(hS.swap).tl λS hS=>hS.swap).swap
    have C:ps.length=xs.length:=by rw [← g,List.length_map]
    have D:qs.length=ys.length:=by rw [← h,List.length_map]
    obtain⟨hr,hn,E,F⟩:=j.rd 0 rfl;have k:ps.take i.toNat++ps.drop i.toNat=ps:=List.take_append_drop _ _;have q:(ps.take i.toNat).length=i.toNat:=by rw [List.length_take];omega
    have G:(ps.drop i.toNat).length=xs.length - i.toNat:=by rw [List.length_drop];omega
    have e:=aV2 (ps.take i.toNat) (ps.drop i.toNat) qs c (by omega) (by omega) (by omega);rw [k,q,Int.toNat_of_nonneg hi.1] at e;refine Calls.mono (rN e j :) ?_;rintro ev w' ⟨v,s,b,d,f,t,u⟩;refine⟨v,s,b,d,f,t,aC8 (ps:=ps.take i.toNat++qs++ps.drop i.toNat) ?_ (u.tl λS hS=>?_)⟩
    · rw [List.map_append,List.map_append,List.map_take,List.map_drop,g,h]
    · rw [← k] at hS
      have s1:=aGo hS;have z:=s1.tl λS hS=>hS.swap;rw [List.append_assoc];exact aBd (z.tl λS hS=>aBd hS)
  · cases a
theorem aR7 {r w:World} {L:List HP} {xs:List S98} {i:Int} {ps:List (S98×Hd)} {p:S98×Hd} {A:Option Addr} {n c:Nat} (g:ps.map Prod.fst=xs) (hp:at_ ps i=some p) (hS:SH r (own kp98 98 A n c ps::uG (kI .u8) 5 (λx:S98=>x.f1) (ps.eraseIdx i.toNat)::L) w) :
    Ret Tryz.prog 80 #[.slice A n c,.int .i64 i,.int .i64 (i+1)] w λv w'=>∃ (a:Option Addr) (b d:Nat),v=.slice a b d/\SH r (oF a b d (xs.eraseIdx i.toNat)::L) w':=by
  obtain⟨h,y,j⟩:=jD hp;obtain⟨hr,hn,z,k⟩:=hS.rd 0 rfl;obtain⟨l,m⟩:=List.getElem?_eq_some_iff.1 j;have o:ps.take i.toNat++p::ps.drop (i.toNat+1)=ps:=by rw [← m, ← List.drop_eq_getElem_cons l,List.take_append_drop]
  have q:(ps.take i.toNat).length=i.toNat:=by rw [List.length_take];omega
  have B:(ps.drop (i.toNat+1)).length=ps.length - (i.toNat+1):=List.length_drop;have s:c<=9223372036854775807:=by unfold maxLen at k;omega
  have e:=aVm (ps.take i.toNat) (ps.drop (i.toNat+1)) p c (by omega) s;rw [o,q,Int.toNat_of_nonneg h] at e;refine Calls.mono (rM e hS :) ?_;rintro ev w' ⟨v,t,a,b,d,u,f⟩;refine⟨v,t,a,b,d,u,?_⟩;rw [← List.eraseIdx_eq_take_drop_succ] at f;refine aC8 (ps:=ps.eraseIdx i.toNat) ?_ f;rw [← g,List.eraseIdx_eq_take_drop_succ,List.eraseIdx_eq_take_drop_succ,List.map_append,List.map_take,List.map_drop]
theorem aYq {r w:World} {L:List HP} {xs:List S98} {i j:Int} {ps:List (S98×Hd)} {p:S98×Hd} {A:Option Addr} {n c:Nat} (e:j=i+1) (f:ps.map Prod.fst=xs) (hp:at_ ps i=some p) (hS:SH r (own kp98 98 A n c ps::uG (kI .u8) 5 (λx:S98=>x.f1) (ps.eraseIdx i.toNat)::L) w) :
    Ret Tryz.prog 80 #[.slice A n c,.int .i64 i,.int .i64 j] w λv w'=>∃ (a:Option Addr) (b d:Nat),v=.slice a b d/\SH r (oF a b d (xs.eraseIdx i.toNat)::L) w':=by
  subst e;exact aR7 f hp hS
theorem bAe {r w:World} {L:List HP} (xs:List S98) (i j:Int) {A:Option Addr} {n c:Nat} {y:List S98} (a:aVl xs i j=some y) (hS:SH r (oF A n c xs::L) w) :
    Ret Tryz.prog 80 #[.slice A n c,.int .i64 i,.int .i64 j] w λv w'=>∃ (b:Option Addr) (d e:Nat),v=.slice b d e/\SH r (oF b d e y::L) w':=by
  unfold aVl at a;split at a
  · rename_i hi
    cases a;obtain⟨h0,l,rfl⟩:=hi;have hx:at_ xs i=some (xs[i.toNat]'(by omega)):=by unfold at_;rw [if_pos h0,List.getElem?_eq_getElem]
    obtain⟨ps,b,d,e,f,hp,g⟩:=aAi hS hx;have h:SH r (own kp98 98 A n c ps::uG (kI .u8) 5 (λx:S98=>x.f1) (ps.eraseIdx i.toNat)::L) w:=g.sh λS hS=>hS.tl λS hS=>by obtain⟨S1,m,o,k,qd,hA,hL⟩:=hS;exact hL.mono k
    exact aR7 f hp h
  · cases a
noncomputable section
set_option linter.unusedSimpArgs false
def sX (a0:(List UInt8)):Option (Bool) :=
  if (!(a0==[]))=true then (some (decide ((a0.length:Int)<=32))) else (some false)
def wZ (a0:(List UInt8)):Option (Bool) :=
  sX a0
def iG (a:Int) (b:Bool):Option ((Int)⊕((Unit)⊕(Bool))) :=
  if b=true then (some (.inr (.inr false))) else (ltt (IntKind.i64.wrap (a+1)) λc=>(some (.inl (c))))
def gG (a0:(List UInt8)) (a:Int):Option ((Int)⊕((Unit)⊕(Bool))) :=
  if (decide (a<(a0.length:Int)))=true then ((at_ a0 a).bind λb=>(if ((b.toNat:Int) != 46)=true then (if (decide ((b.toNat:Int)<48))=true then (if (decide ((b.toNat:Int)<97))=true then (iG a true) else (iG a (decide (122<(b.toNat:Int))))) else (if (decide (57<(b.toNat:Int)))=true then (if (decide ((b.toNat:Int)<97))=true then (iG a true) else (iG a (decide (122<(b.toNat:Int))))) else (iG a false))) else (iG a false))) else (some (.inr (.inl ())))
def rE (a0:(List UInt8)):Option (Bool) :=
  (loop (λs=>gG a0 s) (0)).bind λt=>match t with | (.inl t)=>wZ a0 | (.inr t)=>some t
def jO (a0:S98) (a:(List UInt8)):Option (Int) :=
  if (Op.bytesLess a0.f0 a)=true then (some (-1)) else (if (!(Op.bytesLess a0.f0 a||a0.f0==a))=true then (some 1) else (some 0))
def bW (a0:(List S98)) (d:(List UInt8)) (a:Int):Option (Int×Bool) :=
  if (decide (a<(a0.length:Int)))=true then ((at_ a0 a).bind λb=>((jO b d).bind λc=>(some (a,c==0)))) else (some (a,false))
def bP (a0:(List S98)) (b:(List UInt8)) (a:Int):Option (Int×Bool) :=
  bW a0 b a
def bH (a:Int) (b:Int):Option ((Int×Int)⊕((Int))) :=
  some (.inl (a,b))
def aV (a0:(List S98)) (j:(List UInt8)) (a:Int) (b:Int):Option ((Int×Int)⊕((Int))) :=
  if (decide (a<b))=true then (ltt (IntKind.i64.wrap (a+b)) λd=>(ltt (IntKind.u64.wrap d) λe=>(ltt (nX .u64 e 1) λf=>(ltt (IntKind.i64.wrap f) λc=>((at_ a0 c).bind λg=>((jO g j).bind λh=>(if (decide (h<0))=true then (ltt (IntKind.i64.wrap (c+1)) λi=>(bH i b)) else (bH a c)))))))) else (some (.inr (a)))
def bL (a0:(List S98)) (a:(List UInt8)):Option (Int×Bool) :=
  (loop (λs=>aV a0 a s.1 s.2) (0,(a0.length:Int))).bind λt=>bP a0 a t
def eN (a0:S77) (b:(List UInt8)):Option (Int×Bool) :=
  (bL a0.f0 b).bind λa=>(some (a.1,a.2))
def cQ (a0:(Option S77)) (c:(List UInt8)):Option (Int) :=
  match a0 with | none=>(some 5) | some a=>((rE c).bind λb=>(if (!b)=true then (some 1) else (if a.f3=true then (some 9) else (some 0))))
def nD (a0:S77) (b:Int) (c:Int) (a:Bool):Option (Bool×S77) :=
  some (!a,(⟨a0.f0,a0.f1,c,a,b⟩:S77))
def gU (a0:S77):Option (Bool×S77) :=
  ltt (IntKind.i64.wrap (a0.f4+1)) λa=>(if (decide (0<a0.f2))=true then (ltt (IntKind.i64.wrap (a0.f2 - 1)) λb=>(nD a0 a b (b==0))) else (nD a0 a a0.f2 a0.f3))
def sO (a:Int):Option (Int) :=
  some a
def qO (a:Int):Option (Int) :=
  sO a
def dP (b:S77) (c:Int) (a:Int):Option ((Int×Int)⊕((Int))) :=
  if (decide (a<(b.f0.length:Int)))=true then ((at_ b.f0 a).bind λd=>(ltt (IntKind.i64.wrap (c+(d.f1.length:Int))) λe=>(ltt (IntKind.i64.wrap (a+1)) λf=>(some (.inl (e,f)))))) else (some (.inr (c)))
def oN (a0:(Option S77)):Option (Int) :=
  match a0 with | none=>(some 0) | some a=>((loop (λs=>dP a s.1 s.2) (0,0)).bind λt=>qO t)
def sN (a:(List (List UInt8))):Option ((List (List UInt8))) :=
  some a
def qN (a:(List (List UInt8))):Option ((List (List UInt8))) :=
  sN a
def dO (c:S77) (a:(List (List UInt8))) (b:Int):Option (((List (List UInt8))×Int)⊕(((List (List UInt8))))) :=
  if (decide (b<(c.f0.length:Int)))=true then ((at_ c.f0 b).bind λd=>(chk (a.length+[d.f0].length<=140737488355328 / 16) (ltt (IntKind.i64.wrap (b+1)) λe=>(some (.inl (a++[d.f0],e)))))) else (some (.inr (a)))
def oK (a0:(Option S77)):Option ((List (List UInt8))) :=
  match a0 with | none=>(some []) | some a=>((loop (λs=>dO a s.1 s.2) ([],0)).bind λt=>qN t)
def uW (a0:Int) (a:Bool):Option ((Option S77)×Int) :=
  if a=true then (some (none,1)) else (some (some (⟨[],a0,0,false,0⟩:S77),0))
def xZ (a0:Int):Option ((Option S77)×Int) :=
  if (decide (a0<1))=true then (uW a0 true) else (uW a0 (decide (16777216<a0)))
def gY (a2:(List Int)) (c:(Int×Bool)) (a:(Bool×S77)) (d:(List S98)):Option (Int×(Option S77)) :=
  (at_ d c.1).bind λb=>(chk (b.f1.length+a2.length<=140737488355328 / 1) (if (!a.1)=true then (some (9,some (⟨d.set c.1.toNat (⟨b.f0,b.f1++a2,b.f2⟩:S98),a.2.f1,a.2.f2,a.2.f3,a.2.f4⟩:S77))) else (some (0,some (⟨d.set c.1.toNat (⟨b.f0,b.f1++a2,b.f2⟩:S98),a.2.f1,a.2.f2,a.2.f3,a.2.f4⟩:S77)))))
def eE (f:(List UInt8)) (a2:(List Int)) (c:S77) (a:(Int×Bool)) (d:Bool):Option (Int×(Option S77)) :=
  if d=true then (some (10,some c)) else ((gU c).bind λb=>(if (!a.2)=true then ((aOw b.2.f0 a.1 [(⟨f,[],0⟩:S98)]).bind λe=>(gY a2 a b e)) else (gY a2 a b b.2.f0)))
def pH (a0:(Option S77)) (b:(List UInt8)) (a2:(List Int)):Option (Int×(Option S77)) :=
  match a0 with | none=>((cQ none b).bind λd=>(if (d != 0)=true then (some (d,none)) else (none))) | some a=>((cQ (some a) b).bind λe=>(if (e != 0)=true then (some (e,some a)) else ((eN a b).bind λc=>((oN (some a)).bind λf=>(ltt (IntKind.i64.wrap (a.f1 - f)) λg=>(if (decide (g<(a2.length:Int)))=true then (eE b a2 a c true) else (if (!c.2)=true then (eE b a2 a c (decide (500<=(a.f0.length:Int)))) else (eE b a2 a c false))))))))
def oL (a0:(Option S77)) (b:(List UInt8)):Option ((List Int)×Int) :=
  match a0 with | none=>((cQ none b).bind λc=>(if (c != 0)=true then (some ([],c)) else (none))) | some a=>((cQ (some a) b).bind λd=>(if (d != 0)=true then (some ([],d)) else ((eN a b).bind λe=>(if (!e.2)=true then (some ([],5)) else ((at_ a.f0 e.1).bind λf=>((dG f.f1).bind λg=>(some (g,0))))))))
end
section
variable {r:World} {L:List HP} {w:World} {Z:Nat->Prop} {wz:World}
theorem aEf {a0 y} (G:rE a0=some y) (X:SH r (L) w) :
  Ret Tryz.prog 70 #[str a0] w λv w'=>v=.bool y/\SH r (L) w':=by
 refine enter Tryz.func70 rfl Tryz.ntmps70 [(0,_)] rfl (by simp) ?_;intro U J Qf j a5;unfold rE at G;refine nz 1 J rfl λU J=>wp_seq_k λS u=>ws λT x=>xk 1 J rfl λU J=>x_v J (aCi uu9 rfl (J.ev rfl)) rfl λU J=>x_m J rfl λU J=>wn (x _ _ ?_);refine aA λk z=>?_;have R:sX a0=some y->∀U w,FR 39 [] U [(0,str a0)]->SH r (L) w->k U w:=by
  intro G U w J X;unfold sX at G;refine z _ _ (u _ _ ?_);refine ws λW l=>xk 1 J rfl λU J=>x_v J (aUa rfl (J.ev rfl) (J.ev rfl)) rfl λU J=>x_m J rfl λU J=>bcG G (λd G=>?_) λd G=>?_
  ·refine xg 1 d J rfl rfl λU J=>aH d J ?_ rfl;refine x_v J (aCi uu9 rfl (J.ev rfl)) rfl λU J=>ng 3 d J rfl rfl λU J=>?_;cases G;refine l _ _ (wp_ret ?_);refine j _ _ (lv Tryz.results70 J rfl ?_);exact⟨rfl,X⟩
  refine ng 5 d J rfl rfl λU J=>?_;cases G;refine l _ _ (wp_ret ?_);refine j _ _ (lv Tryz.results70 J rfl ?_);exact⟨rfl,X⟩
 obtain⟨A,B,G⟩:=bnd G;have C:=G;have D:(.inl ())=A->∀U w,FR 39 [] U [(0,str a0)]->SH r (L) w->k U w:=by intro ht U w J X;subst ht;replace G:wZ a0=some y:=G;unfold wZ at G;exact R G U w (J.sub _ rfl) X
 refine aS B (λs U w=>FR 39 [] U [(0,str a0),(6,.int .i64 (a0.length:Int)),(7,.int .i64 s)]/\SH r (L) w) ⟨J.sub _ rfl,X⟩ ?_;intro Y E m G F n U w t;obtain⟨h,rfl⟩:∃ q,q=E:=⟨_,rfl⟩;replace G:gG a0 h=some m:=G;unfold gG at G
 try dsimp only at t
 obtain⟨J,X⟩:=t;refine nz 1 J rfl λU J=>wp_seq_k λZ H=>aX J G rfl (λI G=>?_) λI G=>?_
 ·refine wp_skip (H _ _ ?_);refine wp_seq_k λa1 K=>aA λa2 M=>nz 2 J rfl λU J=>ws λa3 N=>xk 2 J rfl λU J=>?_;obtain⟨o,p,G⟩:=bnd G;refine x_v J (aNp uu9 rfl (J.ev rfl) (J.ev rfl) (jD p).1 (jD p).2.2) rfl λU J=>x_m J rfl λU J=>wn (N _ _ ?_);refine wp_seq_k λO P=>?_;have c:∀i,iG h i=some m->∀U w,FR 39 [] U [(0,str a0),(6,.int .i64 (a0.length:Int)),(7,.int .i64 h),(30,.bool i)]->SH r (L) w->O U w:=by
   intro i G U w J X;unfold iG at G;refine P _ _ (aX J G rfl (λQ G=>?_) λQ G=>?_)
   ·refine nz 1 J rfl λU J=>?_;cases G;refine wp_ret ?_;have ht:=n _ rfl;subst ht;replace G:=C;replace G:some false=some y:=G;cases G;refine j _ _ (lv Tryz.results70 J rfl ?_);exact⟨rfl,X⟩
   refine wp_skip (M _ _ ?_);refine K _ _ (aC ?_);refine x_l G J rfl λa4 _ U J G=>x_m J rfl λU J=>wpList_nil ?_;cases G;exact⟨_,F _ rfl,J.sub _ rfl,X⟩
  refine aC (xk 3 J rfl λU J=>?_);refine bcG G (λa G=>?_) λa G=>?_
  ·refine xg 3 a J rfl rfl λU J=>bcG G (λe G=>?_) λe G=>?_
   ·refine xg 2 e J rfl rfl λU J=>aH a J ?_ rfl;refine xg 1 e J rfl rfl λU J=>xg 2 a J rfl rfl λU J=>aH rfl J ?_ rfl;refine x_m J rfl λU J=>aH rfl J ?_ rfl;refine xk 1 J rfl λU J=>aH rfl J ?_ rfl;refine x_m J rfl λU J=>bcG G (λf G=>?_) λf G=>?_
    ·refine xg 2 f J rfl rfl λU J=>aH rfl J ?_ rfl;exact xg 1 f J rfl rfl λU J=>oW rfl J rfl λU J=>wpList_nil (c true G U w (J.sub _ rfl) X)
    refine xg 2 f J rfl rfl λU J=>aH rfl J ?_ rfl;exact xg 1 f J rfl rfl λU J=>oW rfl J rfl λU J=>wpList_nil (c (decide (122<(o.toNat:Int))) G U w (J.sub _ rfl) X)
   refine xg 2 e J rfl rfl λU J=>aH a J ?_ rfl;refine xg 1 e J rfl rfl λU J=>xg 2 a J rfl rfl λU J=>bcG G (λb G=>?_) λb G=>?_
   ·refine xg 3 b J rfl rfl λU J=>bcG G (λg G=>?_) λg G=>?_
    ·refine xg 2 g J rfl rfl λU J=>aH b J ?_ rfl;exact xg 1 g J rfl rfl λU J=>ng 1 b J rfl rfl λU J=>c true G U w (J.sub _ rfl) X
    refine xg 2 g J rfl rfl λU J=>aH b J ?_ rfl;exact xg 1 g J rfl rfl λU J=>ng 1 b J rfl rfl λU J=>c (decide (122<(o.toNat:Int))) G U w (J.sub _ rfl) X
   exact ng 7 b J rfl rfl λU J=>c false G U w (J.sub _ rfl) X
  exact xg 8 a J rfl rfl λU J=>xO 3 rfl J rfl λU J=>xk 2 J rfl λU J=>xO 1 rfl J rfl λU J=>bE rfl J rfl λU J=>wpList_nil (c false G U w (J.sub _ rfl) X)
 cases G;exact wp_exit (D (n _ rfl) U w (J.sub _ rfl) X)
theorem wG {a0 a1 A0 n0 c0 y} (G:jO a0 a1=some y) (X:SH r (L) w) :
  Ret Tryz.prog 72 #[.agg #[str a0.f0,.slice A0 n0 c0,.int .i64 a0.f2],str a1] w λv w'=>v=.int .i64 y/\SH r (L) w':=by
 refine enter Tryz.func72 rfl Tryz.ntmps72 [(0,_),(1,_)] rfl (by simp) ?_;intro U J Qf a o;unfold jO at G;refine ws λi b=>kK J X rfl λj U w X J=>x_m J rfl λU J=>wn (b _ _ ?_);refine wp_seq_k λk c=>aA λl d=>ws λm e=>aK aLc J rfl λU J=>aL uu9 (X.cell 0 rfl 0 _ rfl) J rfl λU J=>x_m J rfl λU J=>x_v J (aQi rfl (J.ev rfl) (J.ev rfl)) rfl λU J=>x_m J rfl λU J=>wn (e _ _ ?_);refine aX J G rfl (λf G=>?_) λf G=>?_
 ·refine nz 1 J rfl λU J=>?_;replace X:=X.drop 0;cases G;refine wp_ret (a _ _ ?_);exact lv Tryz.results72 J rfl ⟨rfl,X⟩
 refine ws λn g=>aK aLc J rfl λU J=>aL uu9 (X.cell 0 rfl 0 _ rfl) J rfl λU J=>x_m J rfl λU J=>x_v J (bCg rfl (J.ev rfl) (J.ev rfl)) rfl λU J=>x_m J rfl λU J=>wn (g _ _ ?_);refine aX J G rfl (λh G=>?_) λh G=>?_
 ·refine nz 1 J rfl λU J=>?_;replace X:=X.drop 0;cases G;refine wp_ret (a _ _ ?_);exact lv Tryz.results72 J rfl ⟨rfl,X⟩
 refine wp_skip (d _ _ ?_);refine c _ _ (nz 1 J rfl λU J=>?_);replace X:=X.drop 0;cases G;refine wp_ret (a _ _ ?_);exact lv Tryz.results72 J rfl ⟨rfl,X⟩
theorem kV {a0 a1 A0 n0 c0 y} (G:bL a0 a1=some y) (X:SH r (L) w) (d:RdL L (kL kp98 (λx:S98=>x.f1)) A0 n0 c0 a0) :
  Ret Tryz.prog 71 #[.slice A0 n0 c0,str a1,.func (.func 72) #[] #[]] w λv w'=>v=.tuple #[(.int .i64 y.1),(.bool y.2)]/\SH r (L) w':=by
 refine enter Tryz.func71 rfl Tryz.ntmps71 [(0,_),(1,_),(2,_)] rfl (by simp) ?_;intro U J Qf A d0;unfold bL at G;refine nz 2 J rfl λU J=>ws λb5 D=>xk 1 J rfl λU J=>aW iE (X.rdl 0 d rfl).2.1 J rfl λU J=>x_m J rfl λU J=>wn (D _ _ ?_);refine nz 3 J rfl λU J=>wp_seq_k λb6 E=>aA λl F=>?_;have b4:∀e,bW a0 a1 e=some y->∀U w,FR 49 [] U [(0,.slice A0 n0 c0),(1,str a1),(2,.func (.func 72) #[] #[]),(8,.int .i64 (a0.length:Int)),(9,.int .i64 e)]->SH r (L) w->l U w:=by
  intro e G U w J X;unfold bW at G;refine F _ _ (E _ _ ?_);refine ws λb7 m=>xk 5 J rfl λU J=>bcG G (λa G=>?_) λa G=>?_
  ·refine xg 3 a J rfl rfl λU J=>aH a J ?_ rfl;obtain⟨n,o,G⟩:=bnd G;refine fS iE nY (X.rdl 0 d rfl) o J rfl λU J=>aH a J ?_ rfl;obtain⟨cs,b,H⟩:=el (X.rdl 0 d rfl) o;obtain⟨⟨I,K,M⟩,b,b8⟩:=b;obtain rfl:=b;refine hJ (cs:=[str n.f0,.slice I K M,.int .i64 n.f2]) aPf nY (λj u h=>by rw [gQ];exact H _ _ h) J rfl λU J=>xg 1 a J rfl rfl λU J=>aH a J ?_ rfl;obtain⟨b9,N,G⟩:=bnd G;refine x_c bBr J rfl (wG N X :) λv U w k J=>?_;obtain⟨rfl,X⟩:=k;refine ng 4 a J rfl rfl λU J=>?_;cases G;refine m _ _ (wp_ret ?_);refine A _ _ (lv2 Tryz.results71 J rfl rfl ?_);exact⟨rfl,X⟩
  refine ng 11 a J rfl rfl λU J=>?_;cases G;refine m _ _ (wp_ret ?_);refine A _ _ (lv2 Tryz.results71 J rfl rfl ?_);exact⟨rfl,X⟩
 obtain⟨O,P,G⟩:=bnd G;have Q:∀c,(c)=O->∀U w,FR 49 [] U [(0,.slice A0 n0 c0),(1,str a1),(2,.func (.func 72) #[] #[]),(8,.int .i64 (a0.length:Int)),(9,.int .i64 c)]->SH r (L) w->l U w:=by intro c ht U w J X;subst ht;replace G:bP a0 a1 c=some y:=G;unfold bP at G;exact b4 c G U w (J.sub _ rfl) X
 refine aS P (λs U w=>FR 49 [] U [(0,.slice A0 n0 c0),(1,str a1),(2,.func (.func 72) #[] #[]),(8,.int .i64 (a0.length:Int)),(9,.int .i64 s.1),(10,.int .i64 s.2)]/\SH r (L) w) ⟨J.sub _ rfl,X⟩ ?_;intro c1 R p G S T U w B;obtain⟨f,q⟩:=R;replace G:aV a0 a1 f q=some p:=G;unfold aV at G
 try dsimp only at B
 obtain⟨J,X⟩:=B;refine wp_seq_k λc2 W=>nz 3 J rfl λU J=>aX J G rfl (λY G=>?_) λY G=>?_
 ·refine wp_skip (W _ _ ?_);refine aA λZ a2=>?_;have C:∀g i,bH g i=some p->∀U w,FR 49 [] U [(0,.slice A0 n0 c0),(1,str a1),(2,.func (.func 72) #[] #[]),(8,.int .i64 (a0.length:Int)),(9,.int .i64 g),(10,.int .i64 i)]->SH r (L) w->Z U w:=by intro g i G U w J X;unfold bH at G;cases G;exact a2 _ _ ⟨_,S _ rfl,J.sub _ rfl,X⟩
  refine ws λc3 a3=>xk 2 J rfl λU J=>x_l G J rfl λc4 _ U J G=>eR G J (aR uu3 aQo rfl (J.ev rfl)) rfl λc5 _ U J G=>eR G J (uC rfl (J.ev rfl) (J.ev rfl) (by decide)) rfl λc6 _ U J G=>eR G J (aR aQo uu3 rfl (J.ev rfl)) rfl λa4 _ U J G=>x_m J rfl λU J=>wn (a3 _ _ ?_);refine ws λc7 a5=>xk 3 J rfl λU J=>?_;obtain⟨t,z,G⟩:=bnd G;refine fS iE nY (X.rdl 0 d rfl) z J rfl λU J=>?_;obtain⟨cs,b,a6⟩:=el (X.rdl 0 d rfl) z;obtain⟨⟨a7,a8,a9⟩,b,c8⟩:=b;obtain rfl:=b;refine hJ (cs:=[str t.f0,.slice a7 a8 a9,.int .i64 t.f2]) aPf nY (λj u h=>by rw [gQ];exact a6 _ _ h) J rfl λU J=>x_m J rfl λU J=>?_;obtain⟨c9,b1,G⟩:=bnd G;refine x_c bBr J rfl (wG b1 X :) λv U w k J=>?_;obtain⟨rfl,X⟩:=k;refine nk 1 J rfl λU J=>a5 _ _ (aX J G rfl (λb2 G=>?_) λb2 G=>?_)
  ·refine aC (x_m J rfl λU J=>?_);exact x_l G J rfl λb3 _ U J G=>x_m J rfl λU J=>wpList_nil (C b3 q G U w (J.sub _ rfl) X)
  refine aC (nk 2 J rfl λU J=>?_);exact C f a4 G U w (J.sub _ rfl) X
 cases G;exact wp_exit (Q f (T _ rfl) U w (J.sub _ rfl) X)
theorem jM {a0 a1 g0 A0_0 n0_0 c0_0 y} (G:eN a0 a1=some y) (X:SH r (blk g0 77 [.slice A0_0 n0_0 c0_0,.int .i64 a0.f1,.int .i64 a0.f2,.bool a0.f3,.int .i64 a0.f4]::own2 kp98 (kI .u8) 5 (λx:S98=>x.f1) 98 A0_0 n0_0 c0_0 a0.f0::L) w) :
  Ret Tryz.prog 44 #[.pointer (some ⟨g0,0,none⟩),str a1] w λv w'=>v=.tuple #[(.int .i64 y.1),(.bool y.2)]/\SH r (blk g0 77 [.slice A0_0 n0_0 c0_0,.int .i64 a0.f1,.int .i64 a0.f2,.bool a0.f3,.int .i64 a0.f4]::own2 kp98 (kI .u8) 5 (λx:S98=>x.f1) 98 A0_0 n0_0 c0_0 a0.f0::L) w':=by
 refine enter Tryz.func44 rfl Tryz.ntmps44 [(0,_),(1,_)] rfl (by simp) ?_;intro U J Qf c g;unfold eN at G;refine nz 2 J rfl λU J=>ws λe a=>xk 2 J rfl λU J=>aK nU J rfl λU J=>aL iE (X.cell 0 rfl 0 _ rfl) J rfl λU J=>x_m J rfl λU J=>?_;obtain⟨f,b,G⟩:=bnd G;refine x_c bEr J rfl (kV b X (RdL.own2 1 rfl (X.dropN 0)) :) λv U w d J=>?_;obtain⟨rfl,X⟩:=d;refine nk 4 J rfl λU J=>?_;replace X:=X.pk 1 |>.pk 1;cases G;refine a _ _ (wp_ret ?_);refine c _ _ (lv2 Tryz.results44 J rfl rfl ?_);exact⟨rfl,X⟩
theorem eZ {a0 a1 p0 y} (G:cQ a0 a1=some y) (X:SH r (tM (obj77) p0 a0::L) w) :
  Ret Tryz.prog 43 #[.pointer p0,str a1] w λv w'=>v=.int .i64 y/\SH r (tM (obj77) p0 a0::L) w':=by
 refine enter Tryz.func43 rfl Tryz.ntmps43 [(0,_),(1,_)] rfl (by simp) ?_;intro U J Qf a M;unfold cQ at G;cases a0 with
 | none =>
  have d:=SH.unoptN X;clear X;obtain⟨rfl,X⟩:=d;refine nz 1 J rfl λU J=>wp_seq_k λq s=>aA λt u=>ws λz e=>xk 1 J rfl λU J=>x_v (v:=.bool true) J (nL (p:=none) oV rfl (J.ev rfl) (J.ev rfl)) rfl λU J=>x_m J rfl λU J=>wn (e _ _ ?_);refine c_t (b:=true) rfl J ?_ rfl;refine nz 1 J rfl λU J=>?_;replace X:=SH.optN (obj77) X;cases G;refine wp_ret (a _ _ ?_);exact lv Tryz.results43 J rfl ⟨rfl,X⟩
 | some c =>
  have d:=SH.unoptS X;clear X;obtain⟨f,rfl,X⟩:=d;obtain⟨A,B,C,X⟩:=aJ X;refine nz 1 J rfl λU J=>wp_seq_k λD g=>aA λE h=>ws λF i=>xk 1 J rfl λU J=>x_v (v:=.bool false) J (nL (p:=some ⟨f,0,none⟩) oV rfl (J.ev rfl) (J.ev rfl)) rfl λU J=>x_m J rfl λU J=>wn (i _ _ ?_);refine c_f (b:=false) rfl J ?_ rfl;refine ws λH j=>xk 1 J rfl λU J=>?_;obtain⟨I,k,G⟩:=bnd G;refine x_c bBq J rfl (aEf k X :) λv U w o J=>?_;obtain⟨rfl,X⟩:=o;refine nk 2 J rfl λU J=>j _ _ (aX J G rfl (λl G=>?_) λl G=>?_)
  ·refine nz 1 J rfl λU J=>?_;replace X:=SH.optS (aF (x:=c) (X.pk 1 |>.pk 1));cases G;refine wp_ret (a _ _ ?_);exact lv Tryz.results43 J rfl ⟨rfl,X⟩
  refine ws λK m=>xk 2 J rfl λU J=>aK aOr J rfl λU J=>aL uu4 (X.cell 0 rfl 3 _ rfl) J rfl λU J=>x_m J rfl λU J=>wn (m _ _ ?_);refine aX J G rfl (λn G=>?_) λn G=>?_
  ·refine nz 1 J rfl λU J=>?_;replace X:=SH.optS (aF (x:=c) (X.pk 1 |>.pk 1));cases G;refine wp_ret (a _ _ ?_);exact lv Tryz.results43 J rfl ⟨rfl,X⟩
  refine wp_skip (h _ _ ?_);refine g _ _ (nz 1 J rfl λU J=>?_);replace X:=SH.optS (aF (x:=c) (X.pk 1 |>.pk 1));cases G;refine wp_ret (a _ _ ?_);exact lv Tryz.results43 J rfl ⟨rfl,X⟩
theorem nZ {a0 a y} (G:gU a0=some y) (X:SH r (obj77 a a0::L) w) :
  Ret Tryz.prog 101 #[.pointer (some ⟨a,0,none⟩)] w λv w'=>v=.bool y.1/\SH r (obj77 a y.2::L) w':=by
 refine enter Tryz.func101 rfl Tryz.ntmps101 [(0,_)] rfl (by simp) ?_;intro U J Qf q A;unfold gU at G;obtain⟨e,f,g,X⟩:=aJ X;refine nz 1 J rfl λU J=>ws λs j=>xk 2 J rfl λU J=>aK aS8 J rfl λU J=>aL uu3 (X.cell 0 rfl 4 _ rfl) J rfl λU J=>x_l G J rfl λd _ U J G=>xk 1 J rfl λU J=>aK aS8 J rfl λU J=>eQ 0 sz3 J X rfl rfl λU w X J=>wn (j _ _ ?_);refine wp_seq_k λk l=>?_;have i:∀b c,nD a0 d b c=some y->∀U w,FR 35 [] U [(0,(pP a))]->SH r (blk a 77 [.slice e f g,.int .i64 a0.f1,.int .i64 b,.bool c,.int .i64 d]::own2 kp98 (kI .u8) 5 (λx:S98=>x.f1) 98 e f g a0.f0::L) w->k U w:=by intro b c G U w J X;unfold nD at G;refine l _ _ (ws λt m=>?_);refine xk 2 J rfl λU J=>aK aOr J rfl λU J=>aL uu4 (X.cell 0 rfl 3 _ rfl) J rfl λU J=>nk 2 J rfl λU J=>?_;replace X:=X.pk 1 |>.pk 1;replace X:=aF (x:=(⟨a0.f0,a0.f1,b,c,d⟩:S77)) X;cases G;refine m _ _ (wp_ret ?_);refine q _ _ (lv Tryz.results101 J rfl ?_);exact⟨rfl,X⟩
 refine ws λu n=>xk 2 J rfl λU J=>aK aLa J rfl λU J=>aL uu3 (X.cell 0 rfl 2 _ rfl) J rfl λU J=>nk 1 J rfl λU J=>n _ _ (aX J G rfl (λo G=>?_) λo G=>?_)
 ·refine ws λz p=>xk 2 J rfl λU J=>aK aLa J rfl λU J=>aL uu3 (X.cell 0 rfl 2 _ rfl) J rfl λU J=>x_l G J rfl λh _ U J G=>xk 1 J rfl λU J=>aK aLa J rfl λU J=>eQ 0 sz3 J X rfl rfl λU w X J=>wn (p _ _ ?_);refine aC (xk 3 J rfl λU J=>?_);exact aK aLa J rfl λU J=>aL uu3 (X.cell 0 rfl 2 _ rfl) J rfl λU J=>xk 2 J rfl λU J=>aK aOr J rfl λU J=>eQ 0 sz4 J X rfl rfl λU w X J=>wpList_nil (i h (h==0) G U w (J.sub _ rfl) X)
 exact wp_skip (i a0.f2 a0.f3 G U w (J.sub _ rfl) X)
theorem aD2 {a0 p0 y} (G:oN a0=some y) (X:SH r (tM (obj77) p0 a0::L) w) :
  Ret Tryz.prog 106 #[.pointer p0] w λv w'=>v=.int .i64 y/\SH r (tM (obj77) p0 a0::L) w':=by
 refine enter Tryz.func106 rfl Tryz.ntmps106 [(0,_)] rfl (by simp) ?_;intro U J Qf z c0;unfold oN at G;cases a0 with
 | none =>
  have l:=SH.unoptN X;clear X;obtain⟨rfl,X⟩:=l;refine nz 1 J rfl λU J=>nz 1 J rfl λU J=>wp_seq_k λa6 B=>ws λa7 C=>xk 1 J rfl λU J=>x_v (v:=.bool false) J (aAo (p:=none) oV rfl (J.ev rfl) (J.ev rfl)) rfl λU J=>wn (C _ _ ?_);refine c_f (b:=false) rfl J ?_ rfl;refine wp_skip (B _ _ ?_);refine nz 2 J rfl λU J=>?_;replace X:=SH.optN (obj77) X;cases G;refine wp_ret (z _ _ ?_);exact lv Tryz.results106 J rfl ⟨rfl,X⟩
 | some a =>
  have l:=SH.unoptS X;clear X;obtain⟨c,rfl,X⟩:=l;obtain⟨d,e,f,X⟩:=aJ X;refine nz 1 J rfl λU J=>nz 1 J rfl λU J=>wp_seq_k λa8 D=>ws λa9 E=>xk 1 J rfl λU J=>x_v (v:=.bool true) J (aAo (p:=some ⟨c,0,none⟩) oV rfl (J.ev rfl) (J.ev rfl)) rfl λU J=>wn (E _ _ ?_);refine c_t (b:=true) rfl J ?_ rfl;refine ws λb1 F=>xk 2 J rfl λU J=>aK nU J rfl λU J=>aL iE (X.cell 0 rfl 0 _ rfl) J rfl λU J=>aW iE (X.rd2L 1 rfl).2.1 J rfl λU J=>x_m J rfl λU J=>wn (F _ _ ?_);refine aA λn H=>?_;have a5:∀i,sO i=some y->∀U w,FR 24 [] U [(0,(pP c)),(3,.int .i64 i)]->SH r (blk c 77 [.slice d e f,.int .i64 a.f1,.int .i64 a.f2,.bool a.f3,.int .i64 a.f4]::own2 kp98 (kI .u8) 5 (λx:S98=>x.f1) 98 d e f a.f0::L) w->n U w:=by intro i G U w J X;unfold sO at G;refine H _ _ (D _ _ ?_);refine nz 2 J rfl λU J=>?_;replace X:=SH.optS (aF (x:=a) (X.pk 1 |>.pk 1));cases G;refine wp_ret (z _ _ ?_);exact lv Tryz.results106 J rfl ⟨rfl,X⟩
  obtain⟨I,K,G⟩:=bnd G;have M:∀g,(g)=I->∀U w,FR 24 [] U [(0,(pP c)),(3,.int .i64 g)]->SH r (blk c 77 [.slice d e f,.int .i64 a.f1,.int .i64 a.f2,.bool a.f3,.int .i64 a.f4]::own2 kp98 (kI .u8) 5 (λx:S98=>x.f1) 98 d e f a.f0::L) w->n U w:=by intro g ht U w J X;subst ht;replace G:qO g=some y:=G;unfold qO at G;exact a5 g G U w (J.sub _ rfl) X
  refine aS K (λs U w=>FR 24 [] U [(0,(pP c)),(3,.int .i64 s.1),(11,.slice d e f),(12,.int .i64 (a.f0.length:Int)),(13,.int .i64 s.2)]/\SH r (blk c 77 [.slice d e f,.int .i64 a.f1,.int .i64 a.f2,.bool a.f3,.int .i64 a.f4]::own2 kp98 (kI .u8) 5 (λx:S98=>x.f1) 98 d e f a.f0::L) w) ⟨J.sub _ rfl,X⟩ ?_;intro b2 N O G P Q U w A;obtain⟨o,R⟩:=N;replace G:dP a o R=some O:=G;unfold dP at G
  try dsimp only at A
  obtain⟨J,X⟩:=A;refine nz 1 J rfl λU J=>wp_seq_k λb3 S=>aX J G rfl (λT G=>?_) λT G=>?_
  ·refine wp_skip (S _ _ ?_);refine wp_seq_k λb4 W=>aA λb5 Y=>ws λb6 Z=>?_;obtain⟨k,q,G⟩:=bnd G;refine fS iE nY (X.rd2L 1 rfl) q J rfl λU J=>?_;obtain⟨cs,m,a1⟩:=el (X.rd2L 1 rfl) q;obtain⟨⟨a2,t,a3⟩,m,a4⟩:=m;obtain rfl:=m;refine hJ (cs:=[str k.f0,.slice a2 t a3,.int .i64 k.f2]) aPf nY (λj u h=>by rw [gQ];exact a1 _ _ h) J rfl λU J=>fD (cs:=[str [],.slice none 0 0,.int .i64 0]) aW9 J X rfl λb7 U w X J=>eQ 0 nY J X rfl rfl λU w X J=>wn (Z _ _ ?_);refine aC (x_m J rfl λU J=>?_);refine aK aH3 J rfl λU J=>aL cK (X.cell 0 rfl 1 _ rfl) J rfl λU J=>aW cK (show k.f1.length=t from a4) J rfl λU J=>x_l G J rfl λb8 _ U J G=>x_m J rfl λU J=>wpList_nil (Y _ _ ?_);refine W _ _ (aC ?_);refine x_l G J rfl λb9 _ U J G=>x_m J rfl λU J=>wpList_nil ?_;replace X:=X.drop 0;cases G;exact⟨_,P _ rfl,J.sub _ rfl,X⟩
  cases G;exact wp_exit (M o (Q _ rfl) U w (J.sub _ rfl) X)
theorem aD0 {a0 p0 y} (G:oK a0=some y) (X:SH r (tM (obj77) p0 a0::L) w) :
  Ret Tryz.prog 19 #[.pointer p0] w λv w'=>∃ (M:Option Addr) (N:Nat) (O:Nat),v=.slice M N O/\SH r (own kS 9 M N O y::tM (obj77) p0 a0::L) w':=by
 refine enter Tryz.func19 rfl Tryz.ntmps19 [(0,_)] rfl (by simp) ?_;intro U J Qf P d9;unfold oK at G;cases a0 with
 | none =>
  have E:=SH.unoptN X;clear X;obtain⟨rfl,X⟩:=E;refine nz 1 J rfl λU J=>nz 1 J rfl λU J=>wp_seq_k λc4 R=>ws λc5 S=>xk 1 J rfl λU J=>x_v (v:=.bool false) J (aAo (p:=none) oV rfl (J.ev rfl) (J.ev rfl)) rfl λU J=>wn (S _ _ ?_);refine c_f (b:=false) rfl J ?_ rfl;refine wp_skip (R _ _ ?_);refine nz 2 J rfl λU J=>?_;replace X:=(SH.optN (obj77) (SH.nil_own (d:=kS) (e:=9) X)).pk 1;cases G;refine wp_ret (P _ _ ?_);exact lv Tryz.results19 J rfl ⟨none,0,0,rfl,X⟩
 | some a =>
  have E:=SH.unoptS X;clear X;obtain⟨c,rfl,X⟩:=E;obtain⟨f,g,i,X⟩:=aJ X;refine nz 1 J rfl λU J=>nz 1 J rfl λU J=>wp_seq_k λc6 T=>ws λc7 W=>xk 1 J rfl λU J=>x_v (v:=.bool true) J (aAo (p:=some ⟨c,0,none⟩) oV rfl (J.ev rfl) (J.ev rfl)) rfl λU J=>wn (W _ _ ?_);refine c_t (b:=true) rfl J ?_ rfl;refine ws λc8 Y=>xk 2 J rfl λU J=>aK nU J rfl λU J=>aL iE (X.cell 0 rfl 0 _ rfl) J rfl λU J=>aW iE (X.rd2L 1 rfl).2.1 J rfl λU J=>x_m J rfl λU J=>wn (Y _ _ ?_);refine aA λH Z=>?_;have c3:∀D,sN D=some y->∀m n o U w,FR 24 [] U [(0,(pP c)),(3,.slice m n o)]->SH r (blk c 77 [.slice f g i,.int .i64 a.f1,.int .i64 a.f2,.bool a.f3,.int .i64 a.f4]::own2 kp98 (kI .u8) 5 (λx:S98=>x.f1) 98 f g i a.f0::own kS 9 m n o D::L) w->H U w:=by intro D G m n o U w J X;unfold sN at G;refine Z _ _ (T _ _ ?_);refine nz 2 J rfl λU J=>?_;replace X:=(SH.optS (aF (x:=a) (X.pk 1 |>.pk 1))).pk 1;cases G;refine wp_ret (P _ _ ?_);exact lv Tryz.results19 J rfl ⟨m,n,o,rfl,X⟩
  obtain⟨a1,a2,G⟩:=bnd G;have a3:∀l,(l)=a1->∀q t z U w,FR 24 [] U [(0,(pP c)),(3,.slice q t z)]->SH r (blk c 77 [.slice f g i,.int .i64 a.f1,.int .i64 a.f2,.bool a.f3,.int .i64 a.f4]::own2 kp98 (kI .u8) 5 (λx:S98=>x.f1) 98 f g i a.f0::own kS 9 q t z l::L) w->H U w:=by intro l ht q t z U w J X;subst ht;replace G:qN l=some y:=G;unfold qN at G;exact c3 l G q t z U w (J.sub _ rfl) X
  replace X:=(SH.nil_own (d:=kS) (e:=9) X).pk 2 |>.pk 2;refine aS a2 (λs U w=>∃A B C,FR 24 [] U [(0,(pP c)),(3,.slice A B C),(11,.slice f g i),(12,.int .i64 (a.f0.length:Int)),(13,.int .i64 s.2)]/\SH r (blk c 77 [.slice f g i,.int .i64 a.f1,.int .i64 a.f2,.bool a.f3,.int .i64 a.f4]::own2 kp98 (kI .u8) 5 (λx:S98=>x.f1) 98 f g i a.f0::own kS 9 A B C s.1::L) w) ⟨none,0,0,J.sub _ rfl,X⟩ ?_;intro c9 a4 a5 G a6 a7 U w Q;obtain⟨I,a8⟩:=a4;replace G:dO a I a8=some a5:=G;unfold dO at G
  try dsimp only at Q
  obtain⟨A,B,C,J,X⟩:=Q;refine nz 1 J rfl λU J=>wp_seq_k λd1 a9=>aX J G rfl (λb1 G=>?_) λb1 G=>?_
  ·refine wp_skip (a9 _ _ ?_);refine wp_seq_k λd2 b2=>aA λd3 b3=>ws λd4 b4=>?_;obtain⟨k,K,G⟩:=bnd G;refine fS iE nY (X.rd2L 1 rfl) K J rfl λU J=>?_;obtain⟨cs,F,b5⟩:=el (X.rd2L 1 rfl) K;obtain⟨⟨b6,b7,b8⟩,F,d5⟩:=F;obtain rfl:=F;refine hJ (cs:=[str k.f0,.slice b6 b7 b8,.int .i64 k.f2]) aPf nY (λj u h=>by rw [gQ];exact b5 _ _ h) J rfl λU J=>fD (cs:=[str [],.slice none 0 0,.int .i64 0]) aW9 J X rfl λd6 U w X J=>eQ 0 nY J X rfl rfl λU w X J=>wn (b4 _ _ ?_);refine aC (x_m J rfl λU J=>?_);refine aK aLc J rfl λU J=>aL uu9 (X.cell 0 rfl 0 _ rfl) J rfl λU J=>jS (d:=kS) (e:=9) (ps:=#[(0,str k.f0)]) (cells:=[str k.f0]) (xs:=[k.f0]) (λw=>by kernel_rfl) rfl ⟨[str k.f0],_,rfl,rfl,rfl⟩ J X rfl λd7 U w X J=>?_;obtain⟨b9,G⟩:=aD G;have hr:=X.rd 0 rfl;refine kJ 4 aRg vE J X hr.1 hr.2.1 b9 rfl rfl λc0 c1 c2 U w X J=>x_m J rfl λU J=>wpList_nil (b3 _ _ ?_);refine b2 _ _ (aC ?_);refine x_l G J rfl λd8 _ U J G=>x_m J rfl λU J=>wpList_nil ?_;replace X:=X.drop 1 |>.drop 1 |>.pk 2 |>.pk 2;cases G;exact⟨_,a6 _ rfl,c0,c1,c2,J.sub _ rfl,X⟩
  cases G;exact wp_exit (a3 I (a7 _ rfl) A B C U w (J.sub _ rfl) X)
theorem aF3 {a0 y} (G:xZ a0=some y) (X:SH r (L) w) :
  Ret Tryz.prog 10 #[.int .i64 a0] w λv w'=>∃ (c:Option Addr),v=.tuple #[(.pointer c),(.int .i64 y.2)]/\SH r (tM (obj77) c y.1::L) w':=by
 refine enter Tryz.func10 rfl Tryz.ntmps10 [(0,_)] rfl (by simp) ?_;intro U J Qf f q;unfold xZ at G;refine nz 2 J rfl λU J=>wp_seq_k λo i=>wp_seq_k λj k=>?_;have h:∀a,uW a0 a=some y->∀U w,FR 13 [] U [(0,.int .i64 a0),(9,.bool a)]->SH r (L) w->j U w:=by
  intro a G U w J X;unfold uW at G;refine k _ _ (aX J G rfl (λl G=>?_) λl G=>?_)
  ·refine nz 2 J rfl λU J=>?_;replace X:=SH.optN (obj77) X;cases G;refine wp_ret (f _ _ ?_);exact lv2 Tryz.results10 J rfl rfl ⟨none,rfl,X⟩
  refine wp_skip (i _ _ ?_);refine ws λp m=>xk 1 J rfl λU J=>x_v (v:=.agg #[.slice none 0 0,.int .i64 a0,.int .i64 0,.bool false,.int .i64 0]) J (jE (ps:=#[(1,.int .i64 a0)]) rfl (lU J rfl) (λw=>by kernel_rfl)) rfl λU J=>kK J X rfl λn U w X J=>nk 2 J rfl λU J=>?_;replace X:=aTv (dp:=kp98) (d:=(kI .u8)) (e':=5) (g:=(λx:S98=>x.f1)) (e:=98) X;replace X:=X.pk 1;replace X:=SH.optS (aF (x:=(⟨[],a0,0,false,0⟩:S77)) X);cases G;refine m _ _ (wp_ret ?_);refine f _ _ (lv2 Tryz.results10 J rfl rfl ?_);exact⟨some ⟨n,0,none⟩,rfl,X⟩
 refine aC (xk 3 J rfl λU J=>?_);refine bcG G (λb G=>?_) λb G=>?_
 ·exact ng 3 b J rfl rfl λU J=>h true G U w (J.sub _ rfl) X
 exact ng 3 b J rfl rfl λU J=>h (decide (16777216<a0)) G U w (J.sub _ rfl) X
theorem aBu {a0 a1 a2 p0 A2 n2 c2 y} (G:pH a0 a1 a2=some y) (X:SH r (tM (obj77) p0 a0::L) w) (B:RdL L (kI .u8) A2 n2 c2 a2) :
  Ret Tryz.prog 86 #[.pointer p0,str a1,.slice A2 n2 c2] w λv w'=>v=.int .i64 y.1/\SH r (tM (obj77) p0 y.2::L) w':=by
 refine enter Tryz.func86 rfl Tryz.ntmps86 [(0,_),(1,_),(2,_)] rfl (by simp) ?_;intro U J Qf C g8;unfold pH at G;cases a0 with
 | none =>
  have P:=SH.unoptN X;clear X;obtain⟨rfl,X⟩:=P;refine nz 1 J rfl λU J=>wp_seq_k λe2 a6=>ws λe3 a7=>xk 2 J rfl λU J=>?_;replace X:=SH.optN (obj77) X;obtain⟨e4,a8,G⟩:=bnd G;refine x_c aK7 J rfl (eZ a8 X :) λv U w o J=>?_;obtain⟨rfl,X⟩:=o;refine x_m J rfl λU J=>wn (a7 _ _ ?_);refine nz 2 J rfl λU J=>aX J G rfl (λa9 G=>?_) λa9 G=>?_
  ·refine nz 2 J rfl λU J=>?_;replace X:=(SH.optN (obj77) X).drop 1;cases G;refine wp_ret (C _ _ ?_);exact lv Tryz.results86 J rfl ⟨rfl,X⟩
  refine wp_skip (a6 _ _ ?_);refine ws λe5 e6=>xk 2 J rfl λU J=>?_;cases G
 | some i =>
  have P:=SH.unoptS X;clear X;obtain⟨b,rfl,X⟩:=P;obtain⟨e7,e8,e9,X⟩:=aJ X;refine nz 1 J rfl λU J=>wp_seq_k λf5 b1=>ws λf6 b2=>xk 2 J rfl λU J=>?_;replace X:=SH.optS (aF (x:=i) (X.pk 1 |>.pk 1));obtain⟨f7,b3,G⟩:=bnd G;refine x_c aK7 J rfl (eZ b3 X :) λv U w o J=>?_;obtain⟨rfl,X⟩:=o;obtain⟨f8,f9,g0,X⟩:=aJ (SH.unoptP X);refine x_m J rfl λU J=>wn (b2 _ _ ?_);refine nz 2 J rfl λU J=>aX J G rfl (λb4 G=>?_) λb4 G=>?_
  ·refine nz 2 J rfl λU J=>?_;replace X:=SH.optS (aF (x:=i) (X.pk 1 |>.pk 1));cases G;refine wp_ret (C _ _ ?_);exact lv Tryz.results86 J rfl ⟨rfl,X⟩
  refine wp_skip (b1 _ _ ?_);refine ws λg1 b5=>xk 2 J rfl λU J=>?_;replace X:=X.pk 1 |>.pk 1;obtain⟨a,b6,G⟩:=bnd G;refine x_c aRc J rfl (jM b6 X :) λv U w o J=>?_;obtain⟨rfl,X⟩:=o;refine nk 5 J rfl λU J=>b5 _ _ (wp_seq_k λg2 b7=>?_);refine wp_seq_k λb8 b9=>?_;have Q:∀D,eE a1 a2 i a D=some y->∀E F H U w,FR 80 [] U [(0,(pP b)),(1,str a1),(2,.slice A2 n2 c2),(8,.int .i64 a.1),(9,.bool a.2),(44,.bool D)]->SH r (blk b 77 [.slice E F H,.int .i64 i.f1,.int .i64 i.f2,.bool i.f3,.int .i64 i.f4]::own2 kp98 (kI .u8) 5 (λx:S98=>x.f1) 98 E F H i.f0::L) w->b8 U w:=by
   intro D G E F H U w J X;unfold eE at G;refine b9 _ _ (aX J G rfl (λc0 G=>?_) λc0 G=>?_)
   ·refine nz 1 J rfl λU J=>?_;replace X:=SH.optS (aF (x:=i) (X.pk 1 |>.pk 1));cases G;refine wp_ret (C _ _ ?_);exact lv Tryz.results86 J rfl ⟨rfl,X⟩
   refine wp_skip (b7 _ _ ?_);refine ws λg3 c1=>xk 1 J rfl λU J=>?_;replace X:=aF (x:=i) (X.pk 1 |>.pk 1);obtain⟨j,c3,G⟩:=bnd G;refine x_c aPy J rfl (nZ c3 X :) λv U w o J=>?_;obtain⟨rfl,X⟩:=o;obtain⟨S,T,W,X⟩:=aJ X;refine x_m J rfl λU J=>wn (c1 _ _ ?_);refine wp_seq_k λc4 c5=>?_;have a5:∀q,gY a2 a j q=some y->∀p s t U w,FR 80 [] U [(0,(pP b)),(2,.slice A2 n2 c2),(8,.int .i64 a.1),(10,.bool j.1)]->SH r (blk b 77 [.slice p s t,.int .i64 j.2.f1,.int .i64 j.2.f2,.bool j.2.f3,.int .i64 j.2.f4]::own2 kp98 (kI .u8) 5 (λx:S98=>x.f1) 98 p s t q::L) w->c4 U w:=by
    intro q G p s t U w J X;unfold gY at G;refine c5 _ _ (wp_seq_k λg4 c6=>?_);refine wD [0,1,3,7,0,0,32,96,224,0,992,2016,4064,0,16352,32767,65535,131071] [14,17] rfl J X (by kernel_rfl) λw X=>?_;obtain⟨n,I,G⟩:=bnd G;have R:=X;obtain⟨g5,c7,c8,c9,Y,M,X⟩:=aAi (X.pk 1) I;obtain⟨cs,hV,d0⟩:=el (X.rd 0 rfl) M;obtain rfl:=hV;refine⟨[(0,(pP b)),(1,(pP b)),(2,(pP b)),(3,.slice p s t),(4,.int .i64 a.1),(5,(pP b)),(6,(pP b)),(7,(pP b)),(8,.slice p s t),(9,.int .i64 a.1),(10,.pointer (some (ea p (a.1.toNat * 3)))),(11,.pointer (some (ea p (a.1.toNat * 3+1)))),(12,.slice c7 c8 c9),(13,.slice A2 n2 c2)],?_⟩;refine dF [0,1,2,3,4,5,6,7,8,9,10,11,12,13] [14] (by kernel_rfl) ⟨pm rfl,pt [(61,_)] rfl (λU J=>aN rfl (J.ev rfl)),pt [(62,_)] rfl (λU J=>aP nU J rfl rfl),pt [(63,_)] rfl (λU J=>aQ iE (R.cell 0 rfl 0 _ rfl) J rfl rfl rfl),pm rfl,pm rfl,pt [(66,_)] rfl (λU J=>aN rfl (J.ev rfl)),pt [(67,_)] rfl (λU J=>aP nU J rfl rfl),pt [(68,_)] rfl (λU J=>aQ iE (R.cell 0 rfl 0 _ rfl) J rfl rfl rfl),pm rfl,pt [(69,_),(70,_)] rfl (λU J=>fC iE nY (R.rd2L 1 rfl) I J rfl rfl rfl),pt [(71,_)] rfl (λU J=>jL (m:=a.1.toNat * 3) aH3 J rfl rfl),pt [(72,_)] rfl (λU J=>aQ cK (d0 1 _ rfl) J rfl rfl rfl),pm rfl,trivial⟩ ⟨et [(73,_),(74,_)] rfl (λU J K hK=>?_),trivial⟩;obtain⟨d1,G⟩:=aD G;have hr:=X.rdl 4 B rfl;refine cJ 1 aFs cK J X hr.1 hr.2.1 d1 rfl rfl λZ a3 a4 w X=>hK _ [(15,.pointer (some (ea p (a.1.toNat * 3)))),(16,.pointer (some (ea p (a.1.toNat * 3+1))))] _ rfl (dF [0,1,2,3,4,15,16] [17] (by kernel_rfl) ⟨pm rfl,pt [(61,_)] rfl (λU J=>aN rfl (J.ev rfl)),pt [(62,_)] rfl (λU J=>aP nU J rfl rfl),pt [(63,_)] rfl (λU J=>aQ iE (X.cell 3 rfl 0 _ rfl) J rfl rfl rfl),pm rfl,pt [(64,_),(65,_)] rfl (λU J=>fC iE nY (X.rdp 1 rfl Y) I J rfl rfl rfl),pt [(76,_)] rfl (λU J=>jL (m:=a.1.toNat * 3) aH3 J rfl rfl),trivial⟩ ⟨et [(75,_),(77,_)] rfl (λU J K hK=>?_),trivial⟩);refine aN5 (z':=((⟨n.f0,n.f1++a2,n.f2⟩:S98),Z,a3,a4)) (off:=1) (vs:=[.slice Z a3 a4]) 1 aFa J X rfl (jD M).2.2 (λc h=>by cases h;rfl) (λw X=>?_) rfl rfl rfl rfl rfl rfl;replace X:=X.pk 2 |>.pk 2 |>.pk 2;replace X:=aLq (g:=(λx:S98=>x.f1)) (x':=(⟨n.f0,n.f1++a2,n.f2⟩:S98)) Y M X;refine hK _ [] _ rfl (rC [] (by kernel_rfl) trivial ⟨by kernel_rfl,by kernel_rfl⟩ [(0,_),(10,_)] rfl (λU J=>?_));refine c6 _ _ (wp_seq_k λg6 d2=>?_);refine nz 2 J rfl λU J=>aX J G rfl (λd3 G=>?_) λd3 G=>?_
    ·refine nz 1 J rfl λU J=>?_;replace X:=X.pk 1;replace X:=SH.optS (aF (x:=(⟨q.set a.1.toNat (⟨n.f0,n.f1++a2,n.f2⟩:S98),j.2.f1,j.2.f2,j.2.f3,j.2.f4⟩:S77)) X);cases G;refine wp_ret (C _ _ ?_);exact lv Tryz.results86 J rfl ⟨rfl,X⟩
    refine wp_skip (d2 _ _ ?_);refine nz 1 J rfl λU J=>?_;replace X:=X.pk 1;replace X:=SH.optS (aF (x:=(⟨q.set a.1.toNat (⟨n.f0,n.f1++a2,n.f2⟩:S98),j.2.f1,j.2.f2,j.2.f3,j.2.f4⟩:S77)) X);cases G;refine wp_ret (C _ _ ?_);exact lv Tryz.results86 J rfl ⟨rfl,X⟩
   refine nz 2 J rfl λU J=>aX J G rfl (λd4 G=>?_) λd4 G=>?_
   ·refine aC (xk 3 J rfl λU J=>?_);refine aK nU J rfl λU J=>aL iE (X.cell 0 rfl 0 _ rfl) J rfl λU J=>xk 2 J rfl λU J=>x_v (v:=.agg #[str a1,.slice none 0 0,.int .i64 0]) J (jE (ps:=#[(0,str a1)]) rfl (lU J rfl) (λw=>by kernel_rfl)) rfl λU J=>?_;replace X:=SH.nil_own (d:=(kI .u8)) (e:=5) X;refine jS (d:=kp98) (e:=98) (ps:=#[(0,.agg #[str a1,.slice none 0 0,.int .i64 0])]) (cells:=[str a1,.slice none 0 0,.int .i64 0]) (xs:=[((⟨a1,[],0⟩:S98),none,0,0)]) (λw=>by kernel_rfl) rfl ⟨[str a1,.slice none 0 0,.int .i64 0],_,rfl,rfl,rfl⟩ J X rfl λg7 U w X J=>?_;replace X:=aNg (g:=(λx:S98=>x.f1)) (x:=(⟨a1,[],0⟩:S98)) X;replace X:=X.pk 2;obtain⟨d5,d6,G⟩:=bnd G;refine x_c bBz J rfl (aXe (L:=blk b 77 [.slice S T W,.int .i64 j.2.f1,.int .i64 j.2.f2,.bool j.2.f3,.int .i64 j.2.f4]::L) j.2.f0 a.1 [(⟨a1,[],0⟩:S98)] d6 X) λv U w o J=>?_;obtain⟨d7,d8,d9,rfl,X⟩:=o;exact xk 1 J rfl λU J=>aK nU J rfl λU J=>eQ 1 aWm J X rfl rfl λU w X J=>wpList_nil (a5 d5 G d7 d8 d9 U w (J.sub _ rfl) X)
   exact wp_skip (a5 j.2.f0 G S T W U w (J.sub _ rfl) X)
  refine wD [0,1,0,4,12,28,0,64,252,511,1023,2047,4095,8191,16383,32767,65535,131071,262143,524287,1048575,2097151] [7] rfl J X (by kernel_rfl) λw X=>⟨[(0,.slice A2 n2 c2),(1,.int .i64 (a2.length:Int)),(2,(pP b)),(3,(pP b)),(4,.pointer (some ⟨b,1,none⟩)),(5,.int .i64 i.f1),(6,(pP b))],?_⟩;refine dF [0,1,2,3,4,5,6] [7] (by kernel_rfl) ⟨pm rfl,pt [(23,_)] rfl (λU J=>sL cK (X.rdl 2 B rfl).2.1 J rfl rfl),pm rfl,pt [(25,_)] rfl (λU J=>aN rfl (J.ev rfl)),pt [(26,_)] rfl (λU J=>aP aK9 J rfl rfl),pt [(27,_)] rfl (λU J=>aQ uu3 (X.cell 0 rfl 1 _ rfl) J rfl rfl rfl),pm rfl,trivial⟩ ⟨et [(29,_)] rfl (λU J K hK=>?_),trivial⟩;replace X:=SH.optS (aF (x:=i) (X.pk 1 |>.pk 1));obtain⟨N,e0,G⟩:=bnd G;refine dR bAv J (aD2 e0 X :) rfl λv w o=>?_;obtain⟨rfl,X⟩:=o;obtain⟨u,z,A,X⟩:=aJ (SH.unoptP X);obtain⟨f,O,G⟩:=gV G;refine bcG G (λk G=>?_) λk G=>?_
  ·refine hK _ [(8,.int .i64 f),(9,.bool (decide (f<(a2.length:Int)))),(10,.bool (decide (f<(a2.length:Int)))),(11,undef),(12,undef),(13,undef),(14,undef),(15,undef),(16,undef),(17,undef),(18,undef),(19,undef),(20,undef),(21,.bool true)] _ rfl ?_;refine dZ [0,1,2,3,4,5,8,9,10,11,12,13,14,15,16,17,18,19,20,21] (by kernel_rfl) ⟨pm rfl,pt [(23,.slice A2 n2 c2)] rfl (λU J=>sL cK (X.rdl 2 B rfl).2.1 J rfl rfl),pm rfl,pt [(25,(pP b))] rfl (λU J=>aN rfl (J.ev rfl)),pt [(26,(pP b))] rfl (λU J=>aP aK9 J rfl rfl),pt [(27,.pointer (some ⟨b,1,none⟩))] rfl (λU J=>aQ uu3 (X.cell 0 rfl 1 _ rfl) J rfl rfl rfl),pt [(28,.int .i64 i.f1),(30,.int .i64 N)] rfl λU J=>dA O (aAp rfl (J.ev rfl) (J.ev rfl)),pt [(24,.int .i64 (a2.length:Int)),(31,.int .i64 f)] rfl (λU J=>aDt rfl (J.ev rfl) (J.ev rfl)),pm rfl,bF rfl rfl rfl rfl [(9,.bool a.2),(33,.bool (decide (f<(a2.length:Int))))] rfl k rfl,bF rfl rfl rfl rfl [(33,.bool (decide (f<(a2.length:Int)))),(34,undef)] rfl k rfl,bF rfl rfl rfl rfl [(33,.bool (decide (f<(a2.length:Int)))),(35,undef)] rfl k rfl,rH rfl rfl rfl rfl [(0,(pP b)),(36,undef)] rfl rfl,rH rfl rfl rfl rfl [(36,undef),(37,undef)] rfl rfl,rH rfl rfl rfl rfl [(36,undef),(38,undef)] rfl rfl,rH rfl rfl rfl rfl [(36,undef),(39,undef)] rfl rfl,rH rfl rfl rfl rfl [(36,undef),(40,undef)] rfl rfl,rH rfl rfl rfl rfl [(36,undef),(41,undef)] rfl rfl,bF rfl rfl rfl rfl [(33,.bool (decide (f<(a2.length:Int)))),(36,undef),(42,undef)] rfl k rfl,pt [(33,.bool (decide (f<(a2.length:Int)))),(43,undef)] rfl (λU J=>nO k J rfl rfl rfl),trivial⟩ [(0,_),(1,_),(2,_),(8,_),(9,_),(44,_)] rfl (λU J=>?_);exact Q true G u z A U w (J.sub _ rfl) X
  refine bcG G (λl G=>?_) λl G=>?_
  ·refine hK _ [(8,.int .i64 f),(9,.bool (decide (f<(a2.length:Int)))),(10,.bool (decide (f<(a2.length:Int)))),(11,.bool a.2),(12,.bool (!a.2)),(13,.bool (!a.2)),(14,(pP b)),(15,(pP b)),(16,(pP b)),(17,.slice u z A),(18,.int .i64 (i.f0.length:Int)),(19,.bool (decide (500<=(i.f0.length:Int)))),(20,.bool (decide (500<=(i.f0.length:Int)))),(21,.bool (decide (500<=(i.f0.length:Int))))] _ rfl ?_;refine dZ [0,1,2,3,4,5,8,9,10,11,12,13,14,15,16,17,18,19,20,21] (by kernel_rfl) ⟨pm rfl,pt [(23,.slice A2 n2 c2)] rfl (λU J=>sL cK (X.rdl 2 B rfl).2.1 J rfl rfl),pm rfl,pt [(25,(pP b))] rfl (λU J=>aN rfl (J.ev rfl)),pt [(26,(pP b))] rfl (λU J=>aP aK9 J rfl rfl),pt [(27,.pointer (some ⟨b,1,none⟩))] rfl (λU J=>aQ uu3 (X.cell 0 rfl 1 _ rfl) J rfl rfl rfl),pt [(28,.int .i64 i.f1),(30,.int .i64 N)] rfl λU J=>dA O (aAp rfl (J.ev rfl) (J.ev rfl)),pt [(24,.int .i64 (a2.length:Int)),(31,.int .i64 f)] rfl (λU J=>aDt rfl (J.ev rfl) (J.ev rfl)),pm rfl,cD rfl rfl rfl rfl [(9,.bool a.2),(33,.bool (decide (f<(a2.length:Int))))] rfl k (λU J=>fZ J rfl rfl) rfl,cD rfl rfl rfl rfl [(33,.bool (decide (f<(a2.length:Int)))),(34,.bool a.2)] rfl k (λU J=>aKa rfl (J.ev rfl)) rfl,cD rfl rfl rfl rfl [(33,.bool (decide (f<(a2.length:Int)))),(35,.bool (!a.2))] rfl k (λU J=>fZ J rfl rfl) rfl,cD rfl rfl rfl rfl [(0,(pP b)),(36,.bool (!a.2))] rfl l (λU J=>fZ J rfl rfl) rfl,cD rfl rfl rfl rfl [(36,.bool (!a.2)),(37,(pP b))] rfl l (λU J=>aN rfl (J.ev rfl)) rfl,cD rfl rfl rfl rfl [(36,.bool (!a.2)),(38,(pP b))] rfl l (λU J=>aP nU J rfl rfl) rfl,cD rfl rfl rfl rfl [(36,.bool (!a.2)),(39,(pP b))] rfl l (λU J=>aQ iE (X.cell 0 rfl 0 _ rfl) J rfl rfl rfl) rfl,cD rfl rfl rfl rfl [(36,.bool (!a.2)),(40,.slice u z A)] rfl l (λU J=>sL iE (X.rd2L 1 rfl).2.1 J rfl rfl) rfl,cD rfl rfl rfl rfl [(36,.bool (!a.2)),(41,.int .i64 (i.f0.length:Int))] rfl l (λU J=>aX9 rfl (J.ev rfl) (J.ev rfl)) rfl,cD rfl rfl rfl rfl [(33,.bool (decide (f<(a2.length:Int)))),(36,.bool (!a.2)),(42,.bool (decide (500<=(i.f0.length:Int))))] rfl k (λU J=>nO l J rfl rfl rfl) rfl,pt [(33,.bool (decide (f<(a2.length:Int)))),(43,.bool (decide (500<=(i.f0.length:Int))))] rfl (λU J=>oC k J rfl rfl rfl),trivial⟩ [(0,_),(1,_),(2,_),(8,_),(9,_),(44,_)] rfl (λU J=>?_);exact Q (decide (500<=(i.f0.length:Int))) G u z A U w (J.sub _ rfl) X
  refine hK _ [(8,.int .i64 f),(9,.bool (decide (f<(a2.length:Int)))),(10,.bool (decide (f<(a2.length:Int)))),(11,.bool a.2),(12,.bool (!a.2)),(13,.bool (!a.2)),(14,undef),(15,undef),(16,undef),(17,undef),(18,undef),(19,undef),(20,.bool false),(21,.bool false)] _ rfl ?_;refine dZ [0,1,2,3,4,5,8,9,10,11,12,13,14,15,16,17,18,19,20,21] (by kernel_rfl) ⟨pm rfl,pt [(23,.slice A2 n2 c2)] rfl (λU J=>sL cK (X.rdl 2 B rfl).2.1 J rfl rfl),pm rfl,pt [(25,(pP b))] rfl (λU J=>aN rfl (J.ev rfl)),pt [(26,(pP b))] rfl (λU J=>aP aK9 J rfl rfl),pt [(27,.pointer (some ⟨b,1,none⟩))] rfl (λU J=>aQ uu3 (X.cell 0 rfl 1 _ rfl) J rfl rfl rfl),pt [(28,.int .i64 i.f1),(30,.int .i64 N)] rfl λU J=>dA O (aAp rfl (J.ev rfl) (J.ev rfl)),pt [(24,.int .i64 (a2.length:Int)),(31,.int .i64 f)] rfl (λU J=>aDt rfl (J.ev rfl) (J.ev rfl)),pm rfl,cD rfl rfl rfl rfl [(9,.bool a.2),(33,.bool (decide (f<(a2.length:Int))))] rfl k (λU J=>fZ J rfl rfl) rfl,cD rfl rfl rfl rfl [(33,.bool (decide (f<(a2.length:Int)))),(34,.bool a.2)] rfl k (λU J=>aKa rfl (J.ev rfl)) rfl,cD rfl rfl rfl rfl [(33,.bool (decide (f<(a2.length:Int)))),(35,.bool (!a.2))] rfl k (λU J=>fZ J rfl rfl) rfl,bF rfl rfl rfl rfl [(0,(pP b)),(36,.bool (!a.2))] rfl l rfl,bF rfl rfl rfl rfl [(36,.bool (!a.2)),(37,undef)] rfl l rfl,bF rfl rfl rfl rfl [(36,.bool (!a.2)),(38,undef)] rfl l rfl,bF rfl rfl rfl rfl [(36,.bool (!a.2)),(39,undef)] rfl l rfl,bF rfl rfl rfl rfl [(36,.bool (!a.2)),(40,undef)] rfl l rfl,bF rfl rfl rfl rfl [(36,.bool (!a.2)),(41,undef)] rfl l rfl,cD rfl rfl rfl rfl [(33,.bool (decide (f<(a2.length:Int)))),(36,.bool (!a.2)),(42,undef)] rfl k (λU J=>oC l J rfl rfl rfl) rfl,pt [(33,.bool (decide (f<(a2.length:Int)))),(43,.bool false)] rfl (λU J=>oC k J rfl rfl rfl),trivial⟩ [(0,_),(1,_),(2,_),(8,_),(9,_),(44,_)] rfl (λU J=>?_);exact Q false G u z A U w (J.sub _ rfl) X
theorem yH {a0 a1 p0 y} (G:oL a0 a1=some y) (X:SH r (tM (obj77) p0 a0::L) w) :
  Ret Tryz.prog 20 #[.pointer p0,str a1] w λv w'=>∃ (j:Option Addr) (k:Nat) (l:Nat),v=.tuple #[(.slice j k l),(.int .i64 y.2)]/\SH r (own (kI .u8) 5 j k l y.1::tM (obj77) p0 a0::L) w':=by
 refine enter Tryz.func20 rfl Tryz.ntmps20 [(0,_),(1,_)] rfl (by simp) ?_;intro U J Qf c c0;unfold oL at G;cases a0 with
 | none =>
  have f:=SH.unoptN X;clear X;obtain⟨rfl,X⟩:=f;refine nz 2 J rfl λU J=>wp_seq_k λR n=>ws λS o=>xk 2 J rfl λU J=>?_;replace X:=SH.optN (obj77) X;obtain⟨T,p,G⟩:=bnd G;refine x_c aK7 J rfl (eZ p X :) λv U w a J=>?_;obtain⟨rfl,X⟩:=a;refine x_m J rfl λU J=>wn (o _ _ ?_);refine nz 2 J rfl λU J=>aX J G rfl (λq G=>?_) λq G=>?_
  ·refine nz 3 J rfl λU J=>?_;replace X:=(SH.optN (obj77) (SH.nil_own (d:=(kI .u8)) (e:=5) X)).drop 2 |>.pk 1;cases G;refine wp_ret (c _ _ ?_);exact lv2 Tryz.results20 J rfl rfl ⟨none,0,0,rfl,X⟩
  refine wp_skip (n _ _ ?_);refine ws λW Y=>xk 2 J rfl λU J=>?_;cases G
 | some b =>
  have f:=SH.unoptS X;clear X;obtain⟨Z,rfl,X⟩:=f;obtain⟨a2,a3,a4,X⟩:=aJ X;refine nz 2 J rfl λU J=>wp_seq_k λa5 s=>ws λa6 t=>xk 2 J rfl λU J=>?_;replace X:=SH.optS (aF (x:=b) (X.pk 1 |>.pk 1));obtain⟨a7,u,G⟩:=bnd G;refine x_c aK7 J rfl (eZ u X :) λv U w a J=>?_;obtain⟨rfl,X⟩:=a;obtain⟨a8,a9,b1,X⟩:=aJ (SH.unoptP X);refine x_m J rfl λU J=>wn (t _ _ ?_);refine nz 2 J rfl λU J=>aX J G rfl (λz G=>?_) λz G=>?_
  ·refine nz 3 J rfl λU J=>?_;replace X:=(SH.optS (aF (x:=b) ((SH.nil_own (d:=(kI .u8)) (e:=5) X).pk 2 |>.pk 2))).pk 1;cases G;refine wp_ret (c _ _ ?_);exact lv2 Tryz.results20 J rfl rfl ⟨none,0,0,rfl,X⟩
  refine wp_skip (s _ _ ?_);refine ws λb2 A=>xk 2 J rfl λU J=>?_;replace X:=X.pk 1 |>.pk 1;obtain⟨B,C,G⟩:=bnd G;refine x_c aRc J rfl (jM C X :) λv U w a J=>?_;obtain⟨rfl,X⟩:=a;refine nk 5 J rfl λU J=>A _ _ (wp_seq_k λb3 D=>?_);refine nz 2 J rfl λU J=>aX J G rfl (λE G=>?_) λE G=>?_
  ·refine nz 2 J rfl λU J=>?_;replace X:=(SH.optS (aF (x:=b) ((SH.nil_own (d:=(kI .u8)) (e:=5) X).pk 2 |>.pk 2))).pk 1;cases G;refine wp_ret (c _ _ ?_);exact lv2 Tryz.results20 J rfl rfl ⟨none,0,0,rfl,X⟩
  refine wp_skip (D _ _ ?_);refine ws λb4 F=>xk 2 J rfl λU J=>aK nU J rfl λU J=>aL iE (X.cell 0 rfl 0 _ rfl) J rfl λU J=>x_m J rfl λU J=>?_;obtain⟨H,h,G⟩:=bnd G;refine fS iE nY (X.rd2L 1 rfl) h J rfl λU J=>aUz (m:=B.1.toNat * 3) aH3 J (λU J=>?_) rfl rfl rfl rfl rfl;obtain⟨b5,b6,b7,b8,I,i,X⟩:=aAi (X.pk 1) h;obtain⟨cs,Q,K⟩:=el (X.rd 0 rfl) i;obtain rfl:=Q;refine aL cK (K 1 _ rfl) J rfl λU J=>?_;obtain⟨b9,M,G⟩:=bnd G;refine x_c aY8 J rfl (nP M X (RdL.own 1 rfl (X.dropN 0)) :) λv U w a J=>?_;obtain⟨N,O,P,rfl,X⟩:=a;refine nk 2 J rfl λU J=>?_;replace X:=X.pk 3 |>.pk 3 |>.pk 3;replace X:=aTu (g:=(λx:S98=>x.f1)) (x:=H) I i X;replace X:=(SH.optS (aF (x:=b) (X.pk 2))).pk 1;cases G;refine F _ _ (wp_ret ?_);refine c _ _ (lv2 Tryz.results20 J rfl rfl ?_);exact⟨N,O,P,rfl,X⟩
end
noncomputable section
set_option linter.unusedSimpArgs false
def pL (a0:Int) (a:S77):Option (S77) :=
  (at_ a.f0 a0).bind λb=>(some (⟨a.f0.set a0.toNat (⟨b.f0,b.f1,(b.f1.length:Int)⟩:S98),a.f1,a.f2,a.f3,a.f4⟩:S77))
def nB (a0:Int) (a:S77):Option (S77) :=
  ltt (IntKind.i64.wrap (a0+1)) λb=>((aVl a.f0 a0 b).bind λc=>(some (⟨c,a.f1,a.f2,a.f3,a.f4⟩:S77)))
def nC (a0:Int) (a:S77) (a2:(List UInt8)):Option (S77×(List UInt8)) :=
  (at_ a.f0 a0).bind λb=>(ltt (IntKind.i64.wrap (a0+1)) λd=>(chk (d=a0+1) ((eN (⟨a.f0.eraseIdx a0.toNat,a.f1,a.f2,a.f3,a.f4⟩:S77) a2).bind λc=>(if c.2=true then ((at_ (a.f0.eraseIdx a0.toNat) c.1).bind λf=>(some ((⟨(a.f0.eraseIdx a0.toNat).set c.1.toNat (⟨a2,b.f1,b.f2⟩:S98),a.f1,a.f2,a.f3,a.f4⟩:S77),a2))) else ((aOw (a.f0.eraseIdx a0.toNat) c.1 [(⟨a2,b.f1,b.f2⟩:S98)]).bind λe=>(some ((⟨e,a.f1,a.f2,a.f3,a.f4⟩:S77),a2)))))))
end
end Go.Proofs.YtdkpjpoajlmmfaaGreatDoor.M
