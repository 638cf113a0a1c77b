/- Texts of the claim, joined: what it uses of Dc0, Mc0, DlCatalogScans, MlCatalogScans, LCatalogScans, DlCatalogTwins, DlCatalogPlays, DlCatalogSpoilt, DlCatalogFalls, Qa, Qb, Qc, Qd, Qe, Qf, Qg. -/
import Derived.Test.YtdkpjpoajlmmfaaGreatDoorZj
import Derived.Test.YtdkpjpoajlmmfaaGreatDoorCards
import Derived.Test.YtdkpjpoajlmmfaaGreatDoorTie
import Derived.SevenTiedAt
import Derived.LaidMore
import Derived.OpenShut
import Derived.Stop.Joined
import Derived.ProofKit
import Derived.IntWalk
namespace Go.Proofs.YtdkpjpoajlmmfaaGreatDoor.M
open Go Go.RowKit Go.Proofs.YtdkpjpoajlmmfaaGreatDoor.E
set_option linter.unusedVariables false
noncomputable section
set_option linter.unusedSimpArgs false
def aA5 (a:(List S61)):Option ((List S61)) :=
  some a
def yU (a:(List S61)):Option ((List S61)) :=
  aA5 a
def rW (a:Int) (b:(List S61)):Option (((List S61)×Int)⊕(((List S61)))) :=
  ltt (IntKind.i64.wrap (a+1)) λc=>(some (.inl (b,c)))
def rX (a0:(List S61)) (g:Int) (b:(List S61)) (c:Int) (e:Bool):Option (((List S61)×Int)⊕(((List S61)))) :=
  if e=true then ((at_ a0 c).bind λa=>(ltt (IntKind.u64.wrap (b.length:Int)) λd=>((aE1 (⟨d,a.f1,a.f2,a.f3,a.f4⟩:S61) g).bind λf=>(if f=true then (chk (b.length+[(⟨d,a.f1,a.f2,a.f3,a.f4⟩:S61)].length<=140737488355328 / 48) (rW c (b++[(⟨d,a.f1,a.f2,a.f3,a.f4⟩:S61)]))) else (rW c b))))) else (some (.inr (b)))
def nG (a0:(List S61)) (c:Int) (b:(List S61)) (a:Int):Option (((List S61)×Int)⊕(((List S61)))) :=
  if (decide (a<(a0.length:Int)))=true then (rX a0 c b a (decide (a<250))) else (rX a0 c b a false)
def aAg (a0:(List S61)) (a:Int):Option ((List S61)) :=
  (loop (λs=>nG a0 a s.1 s.2) ([],0)).bind λt=>yU t
def oP (g:(List S98)) (h:Int) (i:Int) (j:Bool) (k:Int) (b:Int) (c:(List S46)) (d:Bool):Option (Bool) :=
  if d=true then (some false) else ((cF (⟨(),b,c⟩:S79)).bind λa=>(if ((a.1.length:Int)==1)=true then ((at_ a.1 0).bind λe=>(if (e.f0==[115,101,103,46,48,46,50,48])=true then ((dY a.2).bind λf=>(some (f.1==20))) else (some false))) else (some false)))
def uZ (e:((Option S79)×Int×S77)) (f:S79) (d:(List S61)):Option (Bool) :=
  (jX d 0 10).bind λg=>((bT f g e.2.2).bind λa=>(if (a.1 != 0)=true then (oP a.2.2.f0 a.2.2.f1 a.2.2.f2 a.2.2.f3 a.2.2.f4 a.2.1.f1 a.2.1.f2 true) else ((jX d 10 (d.length:Int)).bind λh=>((bT a.2.1 h a.2.2).bind λb=>(if (b.1 != 0)=true then (oP b.2.2.f0 b.2.2.f1 b.2.2.f2 b.2.2.f3 b.2.2.f4 b.2.1.f1 b.2.1.f2 true) else ((bZ b.2.1 0 b.2.2).bind λc=>(oP c.2.2.f0 c.2.2.f1 c.2.2.f2 c.2.2.f3 c.2.2.f4 c.2.1.f1 c.2.1.f2 (c.1 != 0))))))))
def rV (a:((Option S79)×Int×S77)) (b:S79) (c:(List S61)):Option (Bool) :=
  uZ a b c
def iP (b:(List S61)) (a:Int):Option (((List S61)×Int)⊕(((List S61)))) :=
  if (decide (a<20))=true then (ltt (IntKind.u64.wrap a) λc=>(chk (b.length+[(⟨c,0,a,[],0⟩:S61)].length<=140737488355328 / 48) (ltt (IntKind.i64.wrap (a+1)) λd=>(some (.inl (b++[(⟨c,0,a,[],0⟩:S61)],d)))))) else (some (.inr (b)))
def tX:Option (Bool) :=
  (xZ 65536).bind λb=>((b.1).bind λc=>((pC c 1).bind λa=>((a.1).bind λd=>(if (a.2.1 != 0)=true then (some false) else ((loop (λs=>iP s.1 s.2) ([],0)).bind λt=>rV a d t)))))
end
set_option maxRecDepth 100000
set_option maxHeartbeats 4000000
set_option linter.unusedSimpArgs false
section
variable {r:World} {L:List HP} {w:World} {Z:Nat->Prop} {wz:World}
theorem aMd {a0 a1 A0 n0 c0 y} (G:aAg a0 a1=some y) (X:SH r (L) w) (H:RdL L k61 A0 n0 c0 a0) :
  Ret Tryz.prog 9 #[.slice A0 n0 c0,.int .i64 a1] w λv w'=>∃ (N:Option Addr) (O:Nat) (P:Nat),v=.slice N O P/\SH r (own k61 61 N O P y::L) w':=by
 refine enter Tryz.func9 rfl Tryz.ntmps9 [(0,_),(1,_)] rfl (by simp) ?_;intro U J Qf hQ e0;unfold aAg at G;refine nz 1 J rfl λU J=>nz 1 J rfl λU J=>wp_seq_k λc9 T=>nz 1 J rfl λU J=>aA λI W=>?_;have c6:∀B,aA5 B=some y->∀m n o U w,FR 34 [] U [(5,.slice m n o)]->SH r (own k61 61 m n o B::L) w->I U w:=by intro B G m n o U w J X;unfold aA5 at G;refine W _ _ (T _ _ ?_);refine nz 2 J rfl λU J=>?_;cases G;refine wp_ret (hQ _ _ ?_);exact lv Tryz.results9 J rfl ⟨m,n,o,rfl,X⟩
 obtain⟨Y,Z,G⟩:=bnd G;have a2:∀l,(l)=Y->∀p q t U w,FR 34 [] U [(5,.slice p q t)]->SH r (own k61 61 p q t l::L) w->I U w:=by intro l ht p q t U w J X;subst ht;replace G:yU l=some y:=G;unfold yU at G;exact c6 l G p q t U w (J.sub _ rfl) X
 replace X:=SH.nil_own (d:=k61) (e:=61) X;refine aS Z (λs U w=>∃b c f,FR 34 [] U [(0,.slice A0 n0 c0),(1,.int .i64 a1),(5,.slice b c f),(6,.int .i64 s.2)]/\SH r (own k61 61 b c f s.1::L) w) ⟨none,0,0,J.sub _ rfl,X⟩ ?_;intro d1 a3 C G a4 a5 U w Q;obtain⟨i,k⟩:=a3;replace G:nG a0 a1 i k=some C:=G;unfold nG at G
 try dsimp only at Q
 obtain⟨b,c,f,J,X⟩:=Q;refine wp_seq_k λd2 a6=>wp_seq_k λa7 a8=>?_;have R:∀D,rX a0 a1 i k D=some C->∀U w,FR 34 [] U [(0,.slice A0 n0 c0),(1,.int .i64 a1),(5,.slice b c f),(6,.int .i64 k),(15,.bool D)]->SH r (own k61 61 b c f i::L) w->a7 U w:=by
  intro D G U w J X;unfold rX at G;refine a8 _ _ (aX J G rfl (λa9 G=>?_) λa9 G=>?_)
  ·refine wp_skip (a6 _ _ ?_);refine wp_seq_k λd3 b1=>aA λb2 b3=>?_;have S:∀E,rW k E=some C->∀x z A U w,FR 34 [] U [(0,.slice A0 n0 c0),(1,.int .i64 a1),(5,.slice x z A),(6,.int .i64 k)]->SH r (own k61 61 x z A E::L) w->b2 U w:=by intro E G x z A U w J X;unfold rW at G;refine b3 _ _ (b1 _ _ ?_);refine aC (x_m J rfl λU J=>?_);refine x_l G J rfl λd4 _ U J G=>x_m J rfl λU J=>wpList_nil ?_;cases G;exact⟨_,a4 _ rfl,x,z,A,J.sub _ rfl,X⟩
   refine ws λd5 b4=>xk 2 J rfl λU J=>?_;obtain⟨a,K,G⟩:=bnd G;refine fS gW hN (X.rdl 1 H rfl) K J rfl λU J=>?_;obtain⟨cs,hV,b5⟩:=el (X.rdl 1 H rfl) K;obtain rfl:=hV;refine hJ (cs:=[.int .u64 a.f0,.int .i64 a.f1,.int .i64 a.f2,str a.f3,.float .f64 a.f4]) aCo hN (λj u h=>by rw [gQ];exact b5 _ _ h) J rfl λU J=>fD (cs:=[.int .u64 0,.int .i64 0,.int .i64 0,str [],.float .f64 0]) aN6 J X rfl λM U w X J=>eQ 0 hN J X rfl rfl λU w X J=>wn (b4 _ _ ?_);refine ws λd6 b6=>xk 1 J rfl λU J=>aW gW (X.rd 1 rfl).2.1 J rfl λU J=>eR G J (aR uu3 bM rfl (J.ev rfl)) rfl λg _ U J G=>aK iZ J rfl λU J=>eQ 0 aRx J X rfl rfl λU w X J=>wn (b6 _ _ ?_);refine ws λd7 b7=>hJ (ad:=⟨M,0,none⟩) (cs:=[.int .u64 g,.int .i64 a.f1,.int .i64 a.f2,str a.f3,.float .f64 a.f4]) aCo hN (λj u h=>by rw [fT,Nat.zero_add];exact X.cell 0 rfl j u h) J rfl λU J=>x_m J rfl λU J=>?_;obtain⟨d8,b8,G⟩:=bnd G;refine x_c bD9 J rfl (aOa b8 X :) λv U w hR J=>?_;obtain⟨rfl,X⟩:=hR;refine wn (b7 _ _ ?_);refine aX J G rfl (λb9 G=>?_) λb9 G=>?_
   ·refine aC (x_m J rfl λU J=>?_);refine hJ (ad:=⟨M,0,none⟩) (cs:=[.int .u64 g,.int .i64 a.f1,.int .i64 a.f2,str a.f3,.float .f64 a.f4]) aCo hN (λj u h=>by rw [fT,Nat.zero_add];exact X.cell 0 rfl j u h) J rfl λU J=>jS (d:=k61) (e:=61) (ps:=#[(0,.agg #[.int .u64 g,.int .i64 a.f1,.int .i64 a.f2,str a.f3,.float .f64 a.f4])]) (cells:=[.int .u64 g,.int .i64 a.f1,.int .i64 a.f2,str a.f3,.float .f64 a.f4]) (xs:=[(⟨g,a.f1,a.f2,a.f3,a.f4⟩:S61)]) (λw=>by kernel_rfl) rfl ⟨[.int .u64 g,.int .i64 a.f1,.int .i64 a.f2,str a.f3,.float .f64 a.f4],_,rfl,rfl,rfl⟩ J X rfl λd9 U w X J=>?_;obtain⟨c1,G⟩:=aD G;have hr:=X.rd 0 rfl;refine kJ 2 aJp gW J X hr.1 hr.2.1 c1 rfl rfl λc2 c3 c4 U w X J=>x_m J rfl λU J=>wpList_nil ?_;replace X:=X.drop 1 |>.drop 1;exact S (i++[(⟨g,a.f1,a.f2,a.f3,a.f4⟩:S61)]) G c2 c3 c4 U w (J.sub _ rfl) X
   replace X:=X.drop 0;exact wp_skip (S i G b c f U w (J.sub _ rfl) X)
  cases G;exact wp_exit (a2 i (a5 _ rfl) b c f U w (J.sub _ rfl) X)
 refine aC (xk 2 J rfl λU J=>?_);refine aW gW (X.rdl 1 H rfl).2.1 J rfl λU J=>xk 2 J rfl λU J=>bcG G (λF G=>?_) λF G=>?_
 ·exact ng 3 F J rfl rfl λU J=>R (decide (k<250)) G U w (J.sub _ rfl) X
 exact ng 3 F J rfl rfl λU J=>R false G U w (J.sub _ rfl) X
theorem aDq {y} (G:tX=some y) (X:SH r (zone Z wz::L) w) (b4:Imm Z wz (kI .u32) (some ⟨0,0,none⟩) 16 16 bX) (b5:Gb Z wz 2 .u64 bK) :
  Ret Tryz.prog 8 #[] w λv w'=>∃ (Z':Nat->Prop) (wz':World),v=.bool y/\Sub Z wz Z' wz'/\SH r (zone Z' wz'::L) w':=by
 refine enter Tryz.func8 rfl Tryz.ntmps8 [] rfl (by simp) ?_;intro U J Qf R p9;unfold tX at G;refine nz 1 J rfl λU J=>ws λm2 e1=>?_;obtain⟨m3,e2,G⟩:=bnd G;refine x_c bAq J rfl (aF3 e2 X :) λv U w b J=>?_;obtain⟨m4,rfl,X⟩:=b;refine xk 4 J rfl λU J=>?_;obtain⟨e3,e4,G⟩:=bnd G;rw [e4] at X;have hU:=SH.unoptS X;clear X;obtain⟨l,d3,S⟩:=hU;subst d3;replace X:=S;clear S;obtain⟨m5,m6,m7,X⟩:=aJ X;refine x_m J rfl λU J=>wn (e1 _ _ ?_);refine ws λm8 e5=>xk 1 J rfl λU J=>?_;replace X:=(aF (x:=e3) (X.pk 1 |>.pk 1)).pk 1 |>.pk 1;obtain⟨a,e6,G⟩:=bnd G;refine x_c bAx J rfl (aBs e6 X b4 b5 :) λv U w b J=>?_;obtain⟨T,W,m9,rfl,f,X⟩:=b;obtain⟨C,D,E,X⟩:=aJ (X.pk 1);refine xk 4 J rfl λU J=>?_;replace X:=X.pk 2;obtain⟨g,e7,G⟩:=bnd G;rw [e7] at X;have hU:=SH.unoptS X;clear X;obtain⟨o,d3,S⟩:=hU;subst d3;replace X:=S;clear S;obtain⟨F,H,I,X⟩:=aY X;refine x_m J rfl λU J=>wn (e5 _ _ ?_);refine wp_seq_k λn0 e8=>nz 2 J rfl λU J=>aX J G rfl (λe9 G=>?_) λe9 G=>?_
 ·refine nz 1 J rfl λU J=>?_;replace X:=X.drop 0 |>.drop 0 |>.drop 0 |>.drop 0;cases G;refine wp_ret (R _ _ ?_);exact lv Tryz.results8 J rfl ⟨T,W,rfl,f,X⟩
 refine wp_skip (e8 _ _ ?_);refine nz 1 J rfl λU J=>wp_seq_k λn1 f5=>nz 1 J rfl λU J=>aA λd5 f6=>?_;have m0:∀b6,uZ a g b6=some y->∀Y a0 a1 U w,FR 64 [] U [(3,(pP o)),(5,.slice Y a0 a1)]->SH r (blk o 79 [.pointer (some ⟨l,0,none⟩),.int .i64 g.f1,.slice F H I]::blk l 77 [.slice C D E,.int .i64 a.2.2.f1,.int .i64 a.2.2.f2,.bool a.2.2.f3,.int .i64 a.2.2.f4]::own2 kp98 (kI .u8) 5 (λx:S98=>x.f1) 98 C D E a.2.2.f0::own k46 46 F H I g.f2::own k61 61 Y a0 a1 b6::zone T W::L) w->d5 U w:=by
  intro b6 G Y a0 a1 U w J X;unfold uZ at G;refine f6 _ _ (f5 _ _ ?_);refine wp_seq_k λn2 f7=>wp_seq_k λf8 f9=>?_;have d4:∀b7 b8 b9 c0 c1 a2 a3 c2,oP b7 b8 b9 c0 c1 a2 a3 c2=some y->∀t u c3 c4 c5 c6 c7 c8 (N:Sub Z wz t u) U w,FR 64 [] U [(3,(pP o)),(46,.bool c2)]->SH r (blk o 79 [.pointer (some ⟨l,0,none⟩),.int .i64 a2,.slice c6 c7 c8]::blk l 77 [.slice c3 c4 c5,.int .i64 b8,.int .i64 b9,.bool c0,.int .i64 c1]::own2 kp98 (kI .u8) 5 (λx:S98=>x.f1) 98 c3 c4 c5 b7::own k46 46 c6 c7 c8 a3::zone t u::L) w->f8 U w:=by
   intro b7 b8 b9 c0 c1 a2 a3 c2 G t u c3 c4 c5 c6 c7 c8 N U w J X;unfold oP at G;refine f9 _ _ (aX J G rfl (λg0 G=>?_) λg0 G=>?_)
   ·refine nz 1 J rfl λU J=>?_;replace X:=X.drop 0 |>.drop 0 |>.drop 0 |>.drop 0;cases G;refine wp_ret (R _ _ ?_);exact lv Tryz.results8 J rfl ⟨t,u,rfl,N,X⟩
   refine wp_skip (f7 _ _ ?_);refine ws λn3 g1=>xk 1 J rfl λU J=>?_;replace X:=X.pk 3 |>.pk 1;replace X:=aU (x:=(⟨(),a2,a3⟩:S79)) X;obtain⟨g2,g3,G⟩:=bnd G;refine x_c aVr J rfl (jC g3 X :) λv U w b J=>?_;obtain⟨n4,n5,n6,rfl,X⟩:=b;obtain⟨n7,n8,n9,X⟩:=aY (X.pk 1);refine x_m J rfl λU J=>wn (g1 _ _ ?_);refine ws λo0 c9=>xk 1 J rfl λU J=>aW gM (X.rd 2 rfl).2.1 J rfl λU J=>xk 2 J rfl λU J=>bcG G (λp G=>?_) λp G=>?_
   ·refine xg 1 p J rfl rfl λU J=>aH p J ?_ rfl;obtain⟨o1,d6,G⟩:=bnd G;refine fS gM iT (X.rd 2 rfl) d6 J rfl λU J=>aH p J ?_ rfl;refine aUz (m:=(0:Int).toNat * 5) aHx J (λU J=>?_) rfl rfl rfl rfl rfl;refine aH p J ?_ rfl;obtain⟨cs,hV,g4⟩:=el (X.rd 2 rfl) d6;obtain rfl:=hV;refine aL uu9 (g4 0 _ rfl) J rfl λU J=>aH p J ?_ rfl;refine x_v J (aJ8 rfl (J.ev rfl) (J.ev rfl)) rfl λU J=>xg 2 p J rfl rfl λU J=>bcG G (λO G=>?_) λO G=>?_
    ·refine xg 1 O J rfl rfl λU J=>aH O J ?_ rfl;replace X:=aU (x:=g2.2) (X.pk 1 |>.pk 1);obtain⟨o2,g5,G⟩:=bnd G;refine x_c aS0 J rfl (jZ g5 X :) λv U w b J=>?_;obtain⟨rfl,X⟩:=b;obtain⟨o3,o4,o5,X⟩:=aY X;refine ng 3 O J rfl rfl λU J=>?_;replace X:=X.drop 0 |>.drop 0 |>.drop 0 |>.drop 0 |>.drop 0;cases G;refine c9 _ _ (wp_ret ?_);refine R _ _ (lv Tryz.results8 J rfl ?_);exact⟨t,u,rfl,N,X⟩
    refine ng 5 O J rfl rfl λU J=>?_;replace X:=X.drop 0 |>.drop 0 |>.drop 0 |>.drop 0 |>.drop 0;cases G;refine c9 _ _ (wp_ret ?_);refine R _ _ (lv Tryz.results8 J rfl ?_);exact⟨t,u,rfl,N,X⟩
   refine xg 7 p J rfl rfl λU J=>xO 3 rfl J rfl λU J=>bE rfl J rfl λU J=>x_m J rfl λU J=>wn (c9 _ _ ?_);replace X:=X.drop 0 |>.drop 0 |>.drop 0 |>.drop 0 |>.drop 0;cases G;refine wp_ret (R _ _ ?_);exact lv Tryz.results8 J rfl ⟨t,u,rfl,N,X⟩
  refine aC (xk 2 J rfl λU J=>?_);replace X:=X.pk 5 |>.pk 5;obtain⟨o6,o7,X,a4,h⟩:=SH.freeze (n:=a0) (c:=a1) (A:=Y) X;obtain⟨o8,d0,G⟩:=bnd G;obtain⟨g6,g7,g8,g9,d7⟩:=aH7 a4 d0;refine x_v (v:=.slice g6 g7 g8) J (aD9 g9 (mQ gW hN rfl (J.ev rfl) (J.ev rfl) (mJ (X.imm 0 a4 rfl) d0).2.2.2.2.1 (mJ (X.imm 0 a4 rfl) d0).2.2.1)) rfl λU J=>?_;replace X:=(aF (x:=a.2.2) ((aU (x:=g) (X.pk 4 |>.pk 2)).pk 3 |>.pk 3)).pk 2 |>.pk 1 |>.pk 2;obtain⟨i,h0,G⟩:=bnd G;refine x_c aY4 J rfl (oZ h0 X d7 (Imm.sub b4 (Sub.trans f h)) (Gb.sub b5 (Sub.trans f h)) :) λv U w b J=>?_;obtain⟨h1,h2,rfl,j,X⟩:=b;have a5:=Imm.sub a4 j;have h3:=Imm.sub d7 j;obtain⟨h4,h5,h6,X⟩:=aY X;obtain⟨h7,h8,h9,X⟩:=aJ (X.pk 2);refine xk 2 J rfl λU J=>bcG G (λK G=>?_) λK G=>?_
  ·refine xg 7 K J rfl rfl λU J=>xO 3 rfl J rfl λU J=>oW rfl J rfl λU J=>wpList_nil ?_;replace X:=X.pk 4 |>.pk 4 |>.pk 3 |>.pk 3 |>.pk 4;exact d4 i.2.2.f0 i.2.2.f1 i.2.2.f2 i.2.2.f3 i.2.2.f4 i.2.1.f1 i.2.1.f2 true G h1 h2 h7 h8 h9 h4 h5 h6 (Sub.trans (Sub.trans f h) j) U w (J.sub _ rfl) X
  refine xg 2 K J rfl rfl λU J=>aH K J ?_ rfl;obtain⟨o9,d1,G⟩:=bnd G;obtain⟨i0,i1,i2,i3,d8⟩:=aH8 a5 d1;refine x_v (v:=.slice i0 i1 i2) J (aD9 i3 (lN gW hN rfl (J.ev rfl) (J.ev rfl) (mJ (X.imm 4 a5 rfl) d1).1 (mJ (X.imm 4 a5 rfl) d1).2.2.2.2.2)) rfl λU J=>aH K J ?_ rfl;replace X:=(aF (x:=i.2.2) ((aU (x:=i.2.1) (X.pk 3 |>.pk 3)).pk 2 |>.pk 2)).pk 2 |>.pk 1 |>.pk 2;obtain⟨k,i4,G⟩:=bnd G;refine x_c aY4 J rfl (oZ i4 X d8 (Imm.sub b4 (Sub.trans (Sub.trans f h) j)) (Gb.sub b5 (Sub.trans (Sub.trans f h) j)) :) λv U w b J=>?_;obtain⟨i5,i6,rfl,z,X⟩:=b;have i7:=Imm.sub a5 z;have i8:=Imm.sub h3 z;have i9:=Imm.sub d8 z;obtain⟨j0,j1,j2,X⟩:=aY X;obtain⟨j3,j4,j5,X⟩:=aJ (X.pk 2);refine xg 3 K J rfl rfl λU J=>bcG G (λP G=>?_) λP G=>?_
  ·refine ng 4 P J rfl rfl λU J=>?_;replace X:=X.pk 4 |>.pk 4 |>.pk 3 |>.pk 3 |>.pk 4;exact d4 k.2.2.f0 k.2.2.f1 k.2.2.f2 k.2.2.f3 k.2.2.f4 k.2.1.f1 k.2.1.f2 true G i5 i6 j3 j4 j5 j0 j1 j2 (Sub.trans (Sub.trans (Sub.trans f h) j) z) U w (J.sub _ rfl) X
  refine xg 1 P J rfl rfl λU J=>aH P J ?_ rfl;replace X:=(aF (x:=k.2.2) ((aU (x:=k.2.1) (X.pk 3 |>.pk 3)).pk 2 |>.pk 2)).pk 2 |>.pk 1 |>.pk 2;obtain⟨q,j6,G⟩:=bnd G;refine x_c bBf J rfl (sJ j6 X (Imm.sub b4 (Sub.trans (Sub.trans (Sub.trans f h) j) z)) (Gb.sub b5 (Sub.trans (Sub.trans (Sub.trans f h) j) z)) :) λv U w b J=>?_;obtain⟨j7,j8,rfl,a6,X⟩:=b;have p0:=Imm.sub i7 a6;have p1:=Imm.sub i8 a6;have p2:=Imm.sub i9 a6;obtain⟨j9,k0,k1,X⟩:=aY X;obtain⟨k2,k3,k4,X⟩:=aJ (X.pk 2);refine ng 2 P J rfl rfl λU J=>?_;replace X:=X.pk 4 |>.pk 4 |>.pk 3 |>.pk 3 |>.pk 4;exact d4 q.2.2.f0 q.2.2.f1 q.2.2.f2 q.2.2.f3 q.2.2.f4 q.2.1.f1 q.2.1.f2 (q.1 != 0) G j7 j8 k2 k3 k4 j9 k0 k1 (Sub.trans (Sub.trans (Sub.trans (Sub.trans f h) j) z) a6) U w (J.sub _ rfl) X
 obtain⟨k5,k6,G⟩:=bnd G;have k7:∀Q,(Q)=k5->∀a7 a8 a9 U w,FR 64 [] U [(3,(pP o)),(5,.slice a7 a8 a9)]->SH r (blk o 79 [.pointer (some ⟨l,0,none⟩),.int .i64 g.f1,.slice F H I]::blk l 77 [.slice C D E,.int .i64 a.2.2.f1,.int .i64 a.2.2.f2,.bool a.2.2.f3,.int .i64 a.2.2.f4]::own2 kp98 (kI .u8) 5 (λx:S98=>x.f1) 98 C D E a.2.2.f0::own k46 46 F H I g.f2::own k61 61 a7 a8 a9 Q::zone T W::L) w->d5 U w:=by intro Q ht a7 a8 a9 U w J X;subst ht;replace G:rV a g Q=some y:=G;unfold rV at G;exact m0 Q G a7 a8 a9 U w (J.sub _ rfl) X
 replace X:=(SH.nil_own (d:=k61) (e:=61) X).pk 5 |>.pk 1 |>.pk 3 |>.pk 5 |>.pk 5 |>.pk 5;refine aS k6 (λs U w=>∃b1 b2 b3,FR 64 [] U [(3,(pP o)),(5,.slice b1 b2 b3),(6,.int .i64 s.2)]/\SH r (blk o 79 [.pointer (some ⟨l,0,none⟩),.int .i64 g.f1,.slice F H I]::blk l 77 [.slice C D E,.int .i64 a.2.2.f1,.int .i64 a.2.2.f2,.bool a.2.2.f3,.int .i64 a.2.2.f4]::own2 kp98 (kI .u8) 5 (λx:S98=>x.f1) 98 C D E a.2.2.f0::own k46 46 F H I g.f2::own k61 61 b1 b2 b3 s.1::zone T W::L) w) ⟨none,0,0,J.sub _ rfl,X⟩ ?_;intro p3 k8 k9 G l0 l1 U w e0;obtain⟨d9,B⟩:=k8;replace G:iP d9 B=some k9:=G;unfold iP at G
 try dsimp only at e0
 obtain⟨b1,b2,b3,J,X⟩:=e0;refine wp_seq_k λp4 l2=>nz 2 J rfl λU J=>aX J G rfl (λl3 G=>?_) λl3 G=>?_
 ·refine wp_skip (l2 _ _ ?_);refine wp_seq_k λp5 l4=>aA λp6 l5=>aC (xk 2 J rfl λU J=>?_);refine eR G J (aR uu3 bM rfl (J.ev rfl)) rfl λM _ U J G=>x_m J rfl λU J=>x_v (v:=.agg #[.int .u64 M,.int .i64 0,.int .i64 B,str [],.float .f64 0]) J (jE (ps:=#[(0,.int .u64 M),(2,.int .i64 B)]) rfl (lU J rfl) (λw=>by kernel_rfl)) rfl λU J=>jS (d:=k61) (e:=61) (ps:=#[(0,.agg #[.int .u64 M,.int .i64 0,.int .i64 B,str [],.float .f64 0])]) (cells:=[.int .u64 M,.int .i64 0,.int .i64 B,str [],.float .f64 0]) (xs:=[(⟨M,0,B,[],0⟩:S61)]) (λw=>by kernel_rfl) rfl ⟨[.int .u64 M,.int .i64 0,.int .i64 B,str [],.float .f64 0],_,rfl,rfl,rfl⟩ J X rfl λp7 U w X J=>?_;obtain⟨l6,G⟩:=aD G;have hr:=X.rd 0 rfl;refine kJ 5 aJp gW J X hr.1 hr.2.1 l6 rfl rfl λl7 l8 l9 U w X J=>x_m J rfl λU J=>wpList_nil (l5 _ _ ?_);refine l4 _ _ (aC ?_);refine x_m J rfl λU J=>x_l G J rfl λp8 _ U J G=>x_m J rfl λU J=>wpList_nil ?_;replace X:=X.drop 1 |>.pk 5 |>.pk 1 |>.pk 5 |>.pk 5 |>.pk 5 |>.pk 5;cases G;exact⟨_,l0 _ rfl,l7,l8,l9,J.sub _ rfl,X⟩
 cases G;exact wp_exit (k7 d9 (l1 _ rfl) b1 b2 b3 U w (J.sub _ rfl) X)
end
noncomputable section
set_option linter.unusedSimpArgs false
def mB (a:((List S61)×Int×Int×S79×S77)) (b:((List S61)×Int)) (c:Int):Option (Bool) :=
  if (a.2.2.1==0)=true then ((wQ a.1 b.1).bind λd=>(if d=true then (some (decide (a.2.1<=c))) else (some false))) else (some false)
def kQ (a:((List S61)×Int×Int×S79×S77)) (b:((List S61)×Int)) (c:Int):Option (Bool) :=
  mB a b c
def dK (a2:S26) (e:((List S61))) (b:((List S46)×S79)) (c:Int) (a:Int):Option ((Int×Int)⊕((Int))) :=
  if (decide (a<(b.1.length:Int)))=true then ((at_ b.1 a).bind λd=>((jX e d.f1 d.f2).bind λf=>((sB f a2.f0 a2.f1 a2.f2 a2.f3).bind λg=>(ltt (IntKind.i64.wrap (c+g.2)) λh=>(ltt (IntKind.i64.wrap (a+1)) λi=>(some (.inl (h,i)))))))) else (some (.inr (c)))
def fJ (a2:S26) (a:((List S61))) (d:(List S98)) (e:Int) (f:Int) (g:Bool) (h:Int) (i:Int) (j:(List S46)) (k:Bool):Option (Bool) :=
  if k=true then (some false) else ((hO (⟨(),i,j⟩:S79) a2 (⟨d,e,f,g,h⟩:S77)).bind λb=>((dY b.2.2.2.1).bind λc=>((jX a 0 c.1).bind λl=>((sB l a2.f0 a2.f1 a2.f2 a2.f3).bind λm=>((cF c.2).bind λn=>((loop (λs=>dK a2 a n s.1 s.2) (0,0)).bind λt=>kQ b m t))))))
def jI (a2:S26) (a3:Int) (c:((List S61))) (d:(List S98)) (e:Int) (f:Int) (g:Bool) (h:Int) (i:Int) (j:(List S46)):Option (Bool) :=
  if ((a3.tmod 2)==1)=true then ((cF (⟨(),i,j⟩:S79)).bind λb=>(if (decide (1<(b.1.length:Int)))=true then (ltt (IntKind.i64.wrap a3) λm=>((cF b.2).bind λk=>(ltt (IntKind.i64.wrap ((k.1.length:Int) - 1)) λl=>(chk (l≠0) (ltt (m.tmod l) λn=>((bZ k.2 n (⟨d,e,f,g,h⟩:S77)).bind λa=>(fJ a2 c a.2.2.f0 a.2.2.f1 a.2.2.f2 a.2.2.f3 a.2.2.f4 a.2.1.f1 a.2.1.f2 (a.1 != 0)))))))) else (fJ a2 c d e f g h b.2.f1 b.2.f2 false))) else (fJ a2 c d e f g h i j false)
def oO (a2:S26) (a3:Int) (a:((List S61))) (b:(List S98)) (c:Int) (d:Int) (e:Bool) (f:Int) (g:Int) (h:(List S46)):Option (Bool) :=
  jI a2 a3 a b c d e f g h
def eF (m:(List Int)) (i:((List S61))) (c:(List S98)) (d:Int) (e:Int) (f:Bool) (g:Int) (j:Int) (k:(List S46)) (h:Int):Option (((List S98)×Int×Int×Bool×Int×Int×(List S46)×Int)⊕(((List S98)×Int×Int×Bool×Int×Int×(List S46))⊕(Bool))) :=
  if (decide (h<(m.length:Int)))=true then ((at_ m h).bind λn=>(ltt (n.tmod 90) λo=>(ltt (IntKind.u8.wrap (1+o)) λp=>(ltt (IntKind.u64.wrap p) λl=>((dY (⟨(),j,k⟩:S79)).bind λb=>(ltt (IntKind.u64.wrap (i.length:Int)) λq=>(ltt (IntKind.u64.wrap (q - b.1)) λr=>(if (decide (r<l))=true then (some (.inr (.inl (c,d,e,f,g,b.2.f1,b.2.f2)))) else (ltt (IntKind.u64.wrap (b.1+l)) λs=>((jX i b.1 s).bind λt=>((bT b.2 t (⟨c,d,e,f,g⟩:S77)).bind λa=>(if (a.1 != 0)=true then (some (.inr (.inr false))) else (ltt (IntKind.i64.wrap (h+1)) λu=>(some (.inl (a.2.2.f0,a.2.2.f1,a.2.2.f2,a.2.2.f3,a.2.2.f4,a.2.1.f1,a.2.1.f2,u)))))))))))))))) else (some (.inr (.inl (c,d,e,f,g,j,k))))
def jJ (a0:(List S61)) (h:(List Int)) (a2:S26) (a3:Int) (d:Bool):Option (Bool) :=
  if d=true then ((tX).bind λe=>(some e)) else ((aAg a0 8).bind λb=>((xZ 4194304).bind λf=>((f.1).bind λg=>((pC g 8).bind λa=>((a.1).bind λc=>((loop (λs=>eF h b s.1 s.2.1 s.2.2.1 s.2.2.2.1 s.2.2.2.2.1 s.2.2.2.2.2.1 s.2.2.2.2.2.2.1 s.2.2.2.2.2.2.2) (a.2.2.f0,a.2.2.f1,a.2.2.f2,a.2.2.f3,a.2.2.f4,c.f1,c.f2,0)).bind λt=>match t with | (.inl t)=>oO a2 a3 b t.1 t.2.1 t.2.2.1 t.2.2.2.1 t.2.2.2.2.1 t.2.2.2.2.2.1 t.2.2.2.2.2.2 | (.inr t)=>some t))))))
def lT (a0:(List S61)) (a:(List Int)) (a2:S26) (a3:Int):Option (Bool) :=
  (tX).bind λb=>(if (!b)=true then (jJ a0 a a2 a3 true) else (jJ a0 a a2 a3 (decide (12<(a.length:Int)))))
end
theorem aBy {r:World} {L:List HP} {w:World} {Z:Nat->Prop} {wz:World} (a0:(List S61)) (N:(List Int)) (a2:S26) (a3:Int) (A0:Option Addr) (n0:Nat) (c0:Nat) (A1:Option Addr) (n1:Nat) (c1:Nat) {y:(Bool)} (G:lT a0 N a2 a3=some y) (B0:Imm Z wz k61 A0 n0 c0 a0) (B1:Imm Z wz (kI .u8) A1 n1 c1 N) (b3:Imm Z wz (kI .u32) (some ⟨0,0,none⟩) 16 16 bX) (e7:Gb Z wz 2 .u64 bK) (X:SH r (zone Z wz::L) w) :
  Ret Tryz.prog 3 #[.slice A0 n0 c0,.slice A1 n1 c1,.agg #[.int .u64 a2.f0,.int .u64 a2.f1,.int .i64 a2.f2,.int .i64 a2.f3],.int .u8 a3] w λv w'=>∃ (Z':Nat->Prop) (wz':World),v=.bool y/\Sub Z wz Z' wz'/\SH r (zone Z' wz'::L) w':=by
 refine enter Tryz.func3 rfl Tryz.ntmps3 [(0,_),(1,_),(2,_),(3,_)] rfl (by simp) ?_;intro U J Qf hQ J9;unfold lT at G;refine ws λB4 n7=>kK J X rfl λb U w X J=>x_m J rfl λU J=>wn (n7 _ _ ?_);refine wp_seq_k λB5 n8=>wp_seq_k λn9 o0=>?_;have n6:∀j4,jJ a0 N a2 a3 j4=some y->∀b5 b6 (F:Sub Z wz b5 b6) (f6:Imm b5 b6 k61 A0 n0 c0 a0) (j5:Imm b5 b6 (kI .u8) A1 n1 c1 N) U w,FR 168 [] U [(0,.slice A0 n0 c0),(1,.slice A1 n1 c1),(3,.int .u8 a3),(6,(pP b)),(33,.bool j4)]->SH r (blk b 26 [.int .u64 a2.f0,.int .u64 a2.f1,.int .i64 a2.f2,.int .i64 a2.f3]::zone b5 b6::L) w->n9 U w:=by
  intro j4 G b5 b6 F f6 j5 U w J X;unfold jJ at G;refine o0 _ _ (aX J G rfl (λo1 G=>?_) λo1 G=>?_)
  ·refine ws λB6 o2=>?_;replace X:=X.pk 1;obtain⟨B7,o3,G⟩:=bnd G;refine x_c en8 J rfl (aDq o3 X (Imm.sub b3 F) (Gb.sub e7 F) :) λv U w a J=>?_;obtain⟨o4,o5,rfl,j6,X⟩:=a;have B8:=Imm.sub f6 j6;have B9:=Imm.sub j5 j6;refine x_m J rfl λU J=>wn (o2 _ _ ?_);replace X:=X.drop 1;cases G;refine wp_ret (hQ _ _ ?_);exact lv Tryz.results3 J rfl ⟨o4,o5,rfl,(Sub.trans F j6),X⟩
  refine wp_skip (n8 _ _ ?_);refine ws λC0 o6=>xk 1 J rfl λU J=>?_;obtain⟨q,o7,G⟩:=bnd G;refine x_c en9 J rfl (aMd o7 X (f6.rdl 1 rfl) :) λv U w a J=>?_;obtain⟨d,e,f,rfl,X⟩:=a;replace X:=X.pk 2 |>.pk 1;obtain⟨C1,C2,X,o8,b7⟩:=SH.freeze (n:=e) (c:=f) (A:=d) X;have o9:=Imm.sub f6 b7;have p0:=Imm.sub j5 b7;refine x_m J rfl λU J=>wn (o6 _ _ ?_);refine ws λC3 p1=>?_;obtain⟨C4,p2,G⟩:=bnd G;refine x_c bAq J rfl (aF3 p2 X :) λv U w a J=>?_;obtain⟨C5,rfl,X⟩:=a;refine xk 4 J rfl λU J=>?_;obtain⟨p3,p4,G⟩:=bnd G;rw [p4] at X;have hU:=SH.unoptS X;clear X;obtain⟨B,l5,e8⟩:=hU;subst l5;replace X:=e8;clear e8;obtain⟨C6,C7,C8,X⟩:=aJ X;refine x_m J rfl λU J=>wn (p1 _ _ ?_);refine ws λC9 p5=>xk 1 J rfl λU J=>?_;replace X:=(aF (x:=p3) (X.pk 1 |>.pk 1)).pk 1 |>.pk 1;obtain⟨D0,p6,G⟩:=bnd G;refine x_c bAx J rfl (aBs p6 X (Imm.sub b3 (Sub.trans F b7)) (Gb.sub e7 (Sub.trans F b7)) :) λv U w a J=>?_;obtain⟨p7,p8,D1,rfl,f7,X⟩:=a;have D2:=Imm.sub o9 f7;have p9:=Imm.sub p0 f7;have q0:=Imm.sub o8 f7;obtain⟨q1,q2,q3,X⟩:=aJ (X.pk 1);refine xk 4 J rfl λU J=>?_;replace X:=X.pk 2;obtain⟨D3,q4,G⟩:=bnd G;rw [q4] at X;have hU:=SH.unoptS X;clear X;obtain⟨t,l5,e8⟩:=hU;subst l5;replace X:=e8;clear e8;obtain⟨q5,q6,q7,X⟩:=aY X;refine x_m J rfl λU J=>wn (p5 _ _ ?_);refine wp_seq_k λD4 q8=>nz 1 J rfl λU J=>aA λl7 q9=>?_;have B2:∀O P Q R S b8 b9,jI a2 a3 q O P Q R S b8 b9=some y->∀T W c2 c3 c4 f8 f9 g0 (Y:Sub Z wz T W) (g1:Imm T W k61 d e f q) U w,FR 168 [] U [(3,.int .u8 a3),(6,(pP b)),(9,.slice d e f),(12,(pP t))]->SH r (blk b 26 [.int .u64 a2.f0,.int .u64 a2.f1,.int .i64 a2.f2,.int .i64 a2.f3]::blk t 79 [.pointer (some ⟨B,0,none⟩),.int .i64 b8,.slice f8 f9 g0]::blk B 77 [.slice c2 c3 c4,.int .i64 P,.int .i64 Q,.bool R,.int .i64 S]::own2 kp98 (kI .u8) 5 (λx:S98=>x.f1) 98 c2 c3 c4 O::own k46 46 f8 f9 g0 b9::zone T W::L) w->l7 U w:=by
   intro O P Q R S b8 b9 G T W c2 c3 c4 f8 f9 g0 Y g1 U w J X;unfold jI at G;refine q9 _ _ (q8 _ _ ?_);refine wp_seq_k λD5 r0=>wp_seq_k λr1 r2=>?_;have l6:∀g2 g3 g4 g5 g6 g7 g8 j7,fJ a2 q g2 g3 g4 g5 g6 g7 g8 j7=some y->∀c5 c6 j8 j9 k0 k1 k2 k3 (a4:Sub Z wz c5 c6) (l8:Imm c5 c6 k61 d e f q) U w,FR 168 [] U [(6,(pP b)),(9,.slice d e f),(12,(pP t)),(97,.bool j7)]->SH r (blk b 26 [.int .u64 a2.f0,.int .u64 a2.f1,.int .i64 a2.f2,.int .i64 a2.f3]::blk t 79 [.pointer (some ⟨B,0,none⟩),.int .i64 g7,.slice k1 k2 k3]::blk B 77 [.slice j8 j9 k0,.int .i64 g3,.int .i64 g4,.bool g5,.int .i64 g6]::own2 kp98 (kI .u8) 5 (λx:S98=>x.f1) 98 j8 j9 k0 g2::own k46 46 k1 k2 k3 g8::zone c5 c6::L) w->r1 U w:=by
    intro g2 g3 g4 g5 g6 g7 g8 j7 G c5 c6 j8 j9 k0 k1 k2 k3 a4 l8 U w J X;unfold fJ at G;refine r2 _ _ (aX J G rfl (λr3 G=>?_) λr3 G=>?_)
    ·refine nz 1 J rfl λU J=>?_;replace X:=X.drop 0 |>.drop 0 |>.drop 0 |>.drop 0 |>.drop 0;cases G;refine wp_ret (hQ _ _ ?_);exact lv Tryz.results3 J rfl ⟨c5,c6,rfl,a4,X⟩
    refine wp_skip (r0 _ _ ?_);refine ws λD6 r4=>xk 1 J rfl λU J=>hJ (ad:=⟨b,0,none⟩) (cs:=[.int .u64 a2.f0,.int .u64 a2.f1,.int .i64 a2.f2,.int .i64 a2.f3]) aUs aUm (λj u h=>by rw [fT,Nat.zero_add];exact X.cell 0 rfl j u h) J rfl λU J=>?_;replace X:=X.pk 4 |>.pk 2;replace X:=(aU (x:=(⟨(),g7,g8⟩:S79)) X).pk 3 |>.pk 3;replace X:=(aF (x:=(⟨g2,g3,g4,g5,g6⟩:S77)) X).pk 3 |>.pk 1 |>.pk 2;obtain⟨g,r5,G⟩:=bnd G;refine x_c bBg J rfl (uH r5 X (Imm.sub b3 a4) :) λv U w a J=>?_;obtain⟨a5,a6,a7,a8,a9,rfl,g9,X⟩:=a;have H:=Imm.sub l8 g9;obtain⟨D7,D8,D9,X⟩:=aY (X.pk 1);obtain⟨E0,E1,E2,X⟩:=aJ (X.pk 3);refine nk 7 J rfl λU J=>r4 _ _ (wp_seq_k λE3 r6=>?_);refine wD [0,0,2,7,0,16,0,64,0,256,0,1024,4095,8191,16383,16383,32767,131071] [2,12] rfl J X (by kernel_rfl) λw X=>⟨[(0,.slice d e f),(1,(pP t)),(4,(pP b)),(5,.int .u64 a2.f0),(6,.pointer (some ⟨b,1,none⟩)),(7,.int .u64 a2.f1),(8,.pointer (some ⟨b,2,none⟩)),(9,.int .i64 a2.f2),(10,.pointer (some ⟨b,3,none⟩)),(11,.int .i64 a2.f3)],?_⟩;refine dF [0,1,4,5,6,7,8,9,10,11] [2] (by kernel_rfl) ⟨pm rfl,pm rfl,pt [(6,_)] rfl (λU J=>aP aFi J rfl rfl),pt [(110,_)] rfl (λU J=>aQ bM (X.cell 6 rfl 0 _ rfl) J rfl rfl rfl),pt [(6,_)] rfl (λU J=>aP aFj J rfl rfl),pt [(112,_)] rfl (λU J=>aQ bM (X.cell 6 rfl 1 _ rfl) J rfl rfl rfl),pt [(6,_)] rfl (λU J=>aP aFk J rfl rfl),pt [(114,_)] rfl (λU J=>aQ uu2 (X.cell 6 rfl 2 _ rfl) J rfl rfl rfl),pt [(6,_)] rfl (λU J=>aP aFl J rfl rfl),pt [(116,_)] rfl (λU J=>aQ uu2 (X.cell 6 rfl 3 _ rfl) J rfl rfl rfl),trivial⟩ ⟨et [(107,_)] rfl (λU J K hK=>?_),trivial⟩;replace X:=aU (x:=g.2.2.2.1) (X.pk 3 |>.pk 3);obtain⟨r7,r8,G⟩:=bnd G;refine dR aS0 J (jZ r8 X :) rfl λv w a=>?_;obtain⟨rfl,X⟩:=a;obtain⟨E4,E5,E6,X⟩:=aY X;obtain⟨E7,k4,G⟩:=bnd G;obtain⟨r9,s0,s2,s3,s4⟩:=aH7 H k4;refine hK _ [(3,.slice r9 s0 s2)] _ rfl (dF [0,3,4,5,6,7,8,9,10,11] [12] (by kernel_rfl) ⟨pm rfl,pt [(106,_),(108,_)] rfl λU J=>aD9 s3 (mQ gW hN rfl (J.ev rfl) (J.ev rfl) (mJ (X.imm 5 H rfl) k4).2.2.2.2.1 (mJ (X.imm 5 H rfl) k4).2.2.1),pt [(6,_)] rfl (λU J=>aP aFi J rfl rfl),pt [(110,_)] rfl (λU J=>aQ bM (X.cell 6 rfl 0 _ rfl) J rfl rfl rfl),pt [(6,_)] rfl (λU J=>aP aFj J rfl rfl),pt [(112,_)] rfl (λU J=>aQ bM (X.cell 6 rfl 1 _ rfl) J rfl rfl rfl),pt [(6,_)] rfl (λU J=>aP aFk J rfl rfl),pt [(114,_)] rfl (λU J=>aQ uu2 (X.cell 6 rfl 2 _ rfl) J rfl rfl rfl),pt [(6,_)] rfl (λU J=>aP aFl J rfl rfl),pt [(116,_)] rfl (λU J=>aQ uu2 (X.cell 6 rfl 3 _ rfl) J rfl rfl rfl),trivial⟩ ⟨et [(109,_),(111,_),(113,_),(115,_),(117,_)] rfl (λU J K hK=>?_),trivial⟩);obtain⟨p,s5,G⟩:=bnd G;refine dR bBh J (aF5 s5 X (s4.rdl 5 rfl) :) rfl λv w a=>?_;obtain⟨i,k,l,rfl,X⟩:=a;refine hK _ [(13,.tuple #[(.slice i k l),(.int .i64 p.2)]),(14,.slice i k l),(15,.int .i64 p.2),(16,.slice i k l),(17,.int .i64 p.2)] _ rfl (dZ [13,14,15,16,17] (by kernel_rfl) ⟨pm rfl,pt [(105,.tuple #[(.slice i k l),(.int .i64 p.2)])] rfl (λU J=>mP rfl (J.ev rfl) rfl),pt [(105,.tuple #[(.slice i k l),(.int .i64 p.2)])] rfl (λU J=>mP rfl (J.ev rfl) rfl),pm rfl,pm rfl,trivial⟩ [(6,_),(9,_),(12,_),(17,_),(18,_),(19,_),(20,_)] rfl (λU J=>?_));refine r6 _ _ (nz 1 J rfl λU J=>?_);refine ws λE8 s6=>xk 1 J rfl λU J=>?_;replace X:=aU (x:=r7.2) (X.pk 2 |>.pk 2);obtain⟨l9,s7,G⟩:=bnd G;refine x_c aVr J rfl (jC s7 X :) λv U w a J=>?_;obtain⟨C,h0,h1,rfl,X⟩:=a;obtain⟨E9,F0,F1,X⟩:=aY (X.pk 1);refine x_m J rfl λU J=>wn (s6 _ _ ?_);refine wp_seq_k λF2 s8=>nz 1 J rfl λU J=>aA λm0 s9=>?_;have B3:∀k5,mB g p k5=some y->∀U w,FR 168 [] U [(17,.slice a7 a8 a9),(18,.int .i64 g.2.1),(19,.int .i64 g.2.2.1),(20,.slice i k l),(22,.int .i64 k5)]->SH r (own k61 61 a7 a8 a9 g.1::own k61 61 i k l p.1::zone a5 a6::L) w->m0 U w:=by
     intro k5 G U w J X;unfold mB at G;refine s9 _ _ (s8 _ _ ?_);refine ws λF3 k6=>xk 3 J rfl λU J=>bcG G (λc7 G=>?_) λc7 G=>?_
     ·refine xg 2 c7 J rfl rfl λU J=>aH c7 J ?_ rfl;obtain⟨F5,t0,G⟩:=bnd G;refine x_c bD7 J rfl (aI8 t0 X (RdL.own 0 rfl (X.dropN 0)) (RdL.own 1 rfl (X.dropN 0)) :) λv U w a J=>?_;obtain⟨rfl,X⟩:=a;refine xg 2 c7 J rfl rfl λU J=>bcG G (λk7 G=>?_) λk7 G=>?_
      ·refine ng 5 k7 J rfl rfl λU J=>?_;replace X:=X.drop 0 |>.drop 0;cases G;refine k6 _ _ (wp_ret ?_);refine hQ _ _ (lv Tryz.results3 J rfl ?_);exact⟨a5,a6,rfl,(Sub.trans a4 g9),X⟩
      refine ng 5 k7 J rfl rfl λU J=>?_;replace X:=X.drop 0 |>.drop 0;cases G;refine k6 _ _ (wp_ret ?_);refine hQ _ _ (lv Tryz.results3 J rfl ?_);exact⟨a5,a6,rfl,(Sub.trans a4 g9),X⟩
     refine xg 5 c7 J rfl rfl λU J=>xO 3 rfl J rfl λU J=>bE rfl J rfl λU J=>x_m J rfl λU J=>wn (k6 _ _ ?_);replace X:=X.drop 0 |>.drop 0;cases G;refine wp_ret (hQ _ _ ?_);exact lv Tryz.results3 J rfl ⟨a5,a6,rfl,(Sub.trans a4 g9),X⟩
    obtain⟨t1,t2,G⟩:=bnd G;have t3:∀c8,(c8)=t1->∀U w,FR 168 [] U [(17,.slice a7 a8 a9),(18,.int .i64 g.2.1),(19,.int .i64 g.2.2.1),(20,.slice i k l),(22,.int .i64 c8)]->SH r (own k61 61 a7 a8 a9 g.1::own k61 61 i k l p.1::zone a5 a6::L) w->m0 U w:=by intro c8 ht U w J X;subst ht;replace G:kQ g p c8=some y:=G;unfold kQ at G;exact B3 c8 G U w (J.sub _ rfl) X
    replace X:=X.drop 0 |>.drop 0 |>.drop 2 |>.drop 2 |>.pk 3 |>.pk 1 |>.pk 2 |>.pk 3 |>.pk 4;refine aS t2 (λs U w=>FR 168 [] U [(6,(pP b)),(9,.slice d e f),(17,.slice a7 a8 a9),(18,.int .i64 g.2.1),(19,.int .i64 g.2.2.1),(20,.slice i k l),(22,.int .i64 s.1),(23,.slice C h0 h1),(24,.int .i64 s.2)]/\SH r (blk b 26 [.int .u64 a2.f0,.int .u64 a2.f1,.int .i64 a2.f2,.int .i64 a2.f3]::own k61 61 a7 a8 a9 g.1::own k61 61 i k l p.1::own k46 46 C h0 h1 l9.1::zone a5 a6::L) w) ⟨J.sub _ rfl,X⟩ ?_;intro F6 t4 t5 G t6 t7 U w e9;obtain⟨m1,z⟩:=t4;replace G:dK a2 q l9 m1 z=some t5:=G;unfold dK at G
    try dsimp only at e9
    obtain⟨J,X⟩:=e9;refine wp_seq_k λF7 t8=>ws λF8 t9=>xk 2 J rfl λU J=>aW gM (X.rd 3 rfl).2.1 J rfl λU J=>nk 1 J rfl λU J=>t9 _ _ (aX J G rfl (λu0 G=>?_) λu0 G=>?_)
    ·refine wp_skip (t8 _ _ ?_);refine wp_seq_k λF9 u1=>aA λG0 u2=>wp_seq_k λG1 u3=>wD [0,0,0,6,14,30,0,0,192,448,960,2047,0,4096,0,16384,0,65536,0,262144,1048575,2097151,4194303,4194303,8388607,33554431] [20] rfl J X (by kernel_rfl) λw X=>?_;obtain⟨m2,h2,G⟩:=bnd G;obtain⟨cs,hV,u4⟩:=el (X.rd 3 rfl) h2;obtain rfl:=hV;obtain⟨cs,hV,u5⟩:=el (X.rd 3 rfl) h2;obtain rfl:=hV;obtain⟨G2,h3,G⟩:=bnd G;obtain⟨u6,u7,u9,v0,v1⟩:=aLf H h3;refine⟨[(0,.slice d e f),(1,.slice C h0 h1),(2,.int .i64 z),(3,.pointer (some (ea C (z.toNat * 5)))),(4,.pointer (some (ea C (z.toNat * 5+1)))),(5,.int .u64 m2.f1),(6,.slice C h0 h1),(7,.int .i64 z),(8,.pointer (some (ea C (z.toNat * 5)))),(9,.pointer (some (ea C (z.toNat * 5+2)))),(10,.int .u64 m2.f2),(11,.slice u6 u7 u9),(12,(pP b)),(13,.int .u64 a2.f0),(14,.pointer (some ⟨b,1,none⟩)),(15,.int .u64 a2.f1),(16,.pointer (some ⟨b,2,none⟩)),(17,.int .i64 a2.f2),(18,.pointer (some ⟨b,3,none⟩)),(19,.int .i64 a2.f3)],?_⟩;refine dF [0,1,2,3,4,5,6,7,8,9,10,11,12,13,14,15,16,17,18,19] [20] (by kernel_rfl) ⟨pm rfl,pm rfl,pm rfl,pt [(131,_),(132,_)] rfl (λU J=>fC gM iT (X.rd 3 rfl) h2 J rfl rfl rfl),pt [(133,_)] rfl (λU J=>jL (m:=z.toNat * 5) tK J rfl rfl),pt [(134,_)] rfl (λU J=>aQ bM (u4 1 _ rfl) J rfl rfl rfl),pm rfl,pm rfl,pt [(136,_),(137,_)] rfl (λU J=>fC gM iT (X.rd 3 rfl) h2 J rfl rfl rfl),pt [(138,_)] rfl (λU J=>jL (m:=z.toNat * 5) wY J rfl rfl),pt [(139,_)] rfl (λU J=>aQ bM (u5 2 _ rfl) J rfl rfl rfl),pt [(130,_),(135,_),(140,_)] rfl λU J=>aD9 v0 (aBc gW hN rfl (J.ev rfl) (J.ev rfl) (J.ev rfl) (mJ (X.imm 4 H rfl) h3).1 (mJ (X.imm 4 H rfl) h3).2.1 (mJ (X.imm 4 H rfl) h3).2.2.1),pt [(6,_)] rfl (λU J=>aP aFi J rfl rfl),pt [(142,_)] rfl (λU J=>aQ bM (X.cell 0 rfl 0 _ rfl) J rfl rfl rfl),pt [(6,_)] rfl (λU J=>aP aFj J rfl rfl),pt [(144,_)] rfl (λU J=>aQ bM (X.cell 0 rfl 1 _ rfl) J rfl rfl rfl),pt [(6,_)] rfl (λU J=>aP aFk J rfl rfl),pt [(146,_)] rfl (λU J=>aQ uu2 (X.cell 0 rfl 2 _ rfl) J rfl rfl rfl),pt [(6,_)] rfl (λU J=>aP aFl J rfl rfl),pt [(148,_)] rfl (λU J=>aQ uu2 (X.cell 0 rfl 3 _ rfl) J rfl rfl rfl),trivial⟩ ⟨et [(141,_),(143,_),(145,_),(147,_),(149,_)] rfl (λU J K hK=>?_),trivial⟩;obtain⟨c9,v2,G⟩:=bnd G;refine dR bBh J (aF5 v2 X (v1.rdl 4 rfl) :) rfl λv w a=>?_;obtain⟨d0,d1,d2,rfl,X⟩:=a;refine hK _ [(21,.tuple #[(.slice d0 d1 d2),(.int .i64 c9.2)]),(22,.slice d0 d1 d2),(23,.int .i64 c9.2),(24,.slice d0 d1 d2),(25,.int .i64 c9.2)] _ rfl (dZ [21,22,23,24,25] (by kernel_rfl) ⟨pm rfl,pt [(129,.tuple #[(.slice d0 d1 d2),(.int .i64 c9.2)])] rfl (λU J=>mP rfl (J.ev rfl) rfl),pt [(129,.tuple #[(.slice d0 d1 d2),(.int .i64 c9.2)])] rfl (λU J=>mP rfl (J.ev rfl) rfl),pm rfl,pm rfl,trivial⟩ [(6,_),(9,_),(17,_),(18,_),(19,_),(20,_),(22,_),(23,_),(24,_),(26,_)] rfl (λU J=>?_));refine u3 _ _ (aC ?_);refine xk 2 J rfl λU J=>x_l G J rfl λG3 _ U J G=>x_m J rfl λU J=>wpList_nil (u2 _ _ ?_);refine u1 _ _ (aC ?_);refine x_m J rfl λU J=>x_l G J rfl λG4 _ U J G=>x_m J rfl λU J=>wpList_nil ?_;replace X:=X.drop 0;cases G;exact⟨_,t6 _ rfl,J.sub _ rfl,X⟩
    replace X:=X.drop 0 |>.drop 2;cases G;exact wp_exit (t3 m1 (t7 _ rfl) U w (J.sub _ rfl) X)
   refine aC (x_m J rfl λU J=>?_);refine x_v J (aGk rfl (J.ev rfl) (J.ev rfl) (by decide)) rfl λU J=>xk 2 J rfl λU J=>bcG G (λb1 G=>?_) λb1 G=>?_
   ·refine xg 1 b1 J rfl rfl λU J=>aH b1 J ?_ rfl;replace X:=X.pk 4 |>.pk 2;replace X:=aU (x:=(⟨(),b8,b9⟩:S79)) X;obtain⟨k8,v3,G⟩:=bnd G;refine x_c aVr J rfl (jC v3 X :) λv U w a J=>?_;obtain⟨G5,G6,G7,rfl,X⟩:=a;obtain⟨v4,v5,v6,X⟩:=aY (X.pk 1);refine aH b1 J ?_ rfl;refine aW gM (X.rd 2 rfl).2.1 J rfl λU J=>xg 3 b1 J rfl rfl λU J=>bcG G (λo G=>?_) λo G=>?_
    ·refine xg 2 o J rfl rfl λU J=>aH o J ?_ rfl;refine eR G J (aR uu5 uu3 rfl (J.ev rfl)) rfl λG8 _ U J G=>xg 1 o J rfl rfl λU J=>aH o J ?_ rfl;replace X:=aU (x:=k8.2) (X.pk 1 |>.pk 1);obtain⟨v7,v8,G⟩:=bnd G;refine x_c aVr J rfl (jC v8 X :) λv U w a J=>?_;obtain⟨G9,H0,H1,rfl,X⟩:=a;obtain⟨H2,H3,H4,X⟩:=aY (X.pk 1);refine aH o J ?_ rfl;refine aW gM (X.rd 2 rfl).2.1 J rfl λU J=>aH o J ?_ rfl;refine x_l G J rfl λH5 _ U J G=>aH o J ?_ rfl;obtain⟨v9,G⟩:=aD G;refine eR G J (aGk rfl (J.ev rfl) (J.ev rfl) v9) rfl λH6 _ U J G=>aH o J ?_ rfl;replace X:=(aU (x:=v7.2) (X.pk 1 |>.pk 1)).pk 5 |>.pk 5;replace X:=(aF (x:=(⟨O,P,Q,R,S⟩:S77)) X).pk 5 |>.pk 1 |>.pk 2;obtain⟨D,w0,G⟩:=bnd G;refine x_c bBf J rfl (sJ w0 X (Imm.sub b3 Y) (Gb.sub e7 Y) :) λv U w a J=>?_;obtain⟨w1,w2,rfl,m3,X⟩:=a;have w3:=Imm.sub g1 m3;obtain⟨w4,w5,w6,X⟩:=aY X;obtain⟨w7,w8,w9,X⟩:=aJ (X.pk 2);refine ng 2 o J rfl rfl λU J=>?_;replace X:=X.drop 5 |>.drop 5 |>.pk 4 |>.pk 4 |>.pk 3 |>.pk 3 |>.pk 4 |>.pk 5;exact l6 D.2.2.f0 D.2.2.f1 D.2.2.f2 D.2.2.f3 D.2.2.f4 D.2.1.f1 D.2.1.f2 (D.1 != 0) G w1 w2 w7 w8 w9 w4 w5 w6 (Sub.trans Y m3) w3 U w (J.sub _ rfl) X
    refine ng 11 o J rfl rfl λU J=>?_;replace X:=X.drop 2 |>.pk 5 |>.pk 2 |>.pk 5 |>.pk 5 |>.pk 4 |>.pk 5;exact l6 O P Q R S k8.2.f1 k8.2.f2 false G T W c2 c3 c4 v4 v5 v6 Y g1 U w (J.sub _ rfl) X
   exact xg 6 b1 J rfl rfl λU J=>xO 10 rfl J rfl λU J=>bE rfl J rfl λU J=>wpList_nil (l6 O P Q R S b8 b9 false G T W c2 c3 c4 f8 f9 g0 Y g1 U w (J.sub _ rfl) X)
  obtain⟨x0,x1,G⟩:=bnd G;have x2:=G;have m4:∀d3 d4 d5 d6 d7 d8 d9,(.inl (d3,d4,d5,d6,d7,d8,d9))=x0->∀e0 e1 h4 h5 h6 h7 h8 h9 (m5:Sub Z wz e0 e1) (m6:Imm e0 e1 k61 d e f q) U w,FR 168 [] U [(3,.int .u8 a3),(6,(pP b)),(9,.slice d e f),(12,(pP t))]->SH r (blk b 26 [.int .u64 a2.f0,.int .u64 a2.f1,.int .i64 a2.f2,.int .i64 a2.f3]::blk t 79 [.pointer (some ⟨B,0,none⟩),.int .i64 d8,.slice h7 h8 h9]::blk B 77 [.slice h4 h5 h6,.int .i64 d4,.int .i64 d5,.bool d6,.int .i64 d7]::own2 kp98 (kI .u8) 5 (λx:S98=>x.f1) 98 h4 h5 h6 d3::own k46 46 h7 h8 h9 d9::zone e0 e1::L) w->l7 U w:=by intro d3 d4 d5 d6 d7 d8 d9 ht e0 e1 h4 h5 h6 h7 h8 h9 m5 m6 U w J X;subst ht;replace G:oO a2 a3 q d3 d4 d5 d6 d7 d8 d9=some y:=G;unfold oO at G;exact B2 d3 d4 d5 d6 d7 d8 d9 G e0 e1 h4 h5 h6 h7 h8 h9 m5 m6 U w (J.sub _ rfl) X
  replace X:=X.pk 4 |>.pk 2 |>.pk 4 |>.pk 4 |>.pk 4 |>.pk 5;refine aS x1 (λs U w=>∃I M e2 e3 e4 i0 i1 i2,Sub Z wz I M/\Imm I M (kI .u8) A1 n1 c1 N/\Imm I M k61 d e f q/\FR 168 [] U [(1,.slice A1 n1 c1),(3,.int .u8 a3),(6,(pP b)),(9,.slice d e f),(12,(pP t)),(14,.int .i64 s.2.2.2.2.2.2.2)]/\SH r (blk b 26 [.int .u64 a2.f0,.int .u64 a2.f1,.int .i64 a2.f2,.int .i64 a2.f3]::blk t 79 [.pointer (some ⟨B,0,none⟩),.int .i64 s.2.2.2.2.2.1,.slice i0 i1 i2]::blk B 77 [.slice e2 e3 e4,.int .i64 s.2.1,.int .i64 s.2.2.1,.bool s.2.2.2.1,.int .i64 s.2.2.2.2.1]::own2 kp98 (kI .u8) 5 (λx:S98=>x.f1) 98 e2 e3 e4 s.1::own k46 46 i0 i1 i2 s.2.2.2.2.2.2.1::zone I M::L) w) ⟨p7,p8,q1,q2,q3,q5,q6,q7,(Sub.trans (Sub.trans F b7) f7),p9,q0,J.sub _ rfl,X⟩ ?_;intro H7 x3 x4 G x5 k9 U w e9;obtain⟨i3,i4,i5,i6,i7,l0,l1,x6⟩:=x3;replace G:eF N q i3 i4 i5 i6 i7 l0 l1 x6=some x4:=G;unfold eF at G
  try dsimp only at e9
  obtain⟨I,M,e2,e3,e4,i0,i1,i2,b2,i8,E,J,X⟩:=e9;refine wp_seq_k λH8 x7=>ws λH9 x8=>xk 2 J rfl λU J=>aW cK (X.imm 5 i8 rfl).2.1 J rfl λU J=>nk 1 J rfl λU J=>x8 _ _ (aX J G rfl (λx9 G=>?_) λx9 G=>?_)
  ·refine wp_skip (x7 _ _ ?_);refine wp_seq_k λI0 y0=>aA λI1 y1=>ws λI2 y2=>xk 2 J rfl λU J=>?_;obtain⟨I3,m7,G⟩:=bnd G;refine fS cK sz5 (X.imm 5 i8 rfl) m7 J rfl λU J=>?_;obtain⟨cs,hV,y3⟩:=el (X.imm 5 i8 rfl) m7;obtain rfl:=hV;refine aL uu5 (y3 0 _ rfl) J rfl λU J=>eR G J (aGk rfl (J.ev rfl) (J.ev rfl) (by decide)) rfl λI4 _ U J G=>x_l G J rfl λI5 _ U J G=>eR G J (aR uu5 bM rfl (J.ev rfl)) rfl λI6 _ U J G=>x_m J rfl λU J=>wn (y2 _ _ ?_);refine ws λI7 y4=>xk 1 J rfl λU J=>?_;replace X:=X.pk 4 |>.pk 2;replace X:=aU (x:=(⟨(),l0,l1⟩:S79)) X;obtain⟨l2,y5,G⟩:=bnd G;refine x_c aS0 J rfl (jZ y5 X :) λv U w a J=>?_;obtain⟨rfl,X⟩:=a;obtain⟨y6,y7,y8,X⟩:=aY X;refine x_m J rfl λU J=>wn (y4 _ _ ?_);refine wp_seq_k λI8 y9=>ws λI9 z0=>xk 2 J rfl λU J=>aW gW (X.imm 5 E rfl).2.1 J rfl λU J=>eR G J (aR uu3 bM rfl (J.ev rfl)) rfl λJ0 _ U J G=>x_m J rfl λU J=>x_l G J rfl λJ1 _ U J G=>nk 1 J rfl λU J=>z0 _ _ (aX J G rfl (λz1 G=>?_) λz1 G=>?_)
   ·replace X:=X.pk 5 |>.pk 2 |>.pk 5 |>.pk 5 |>.pk 4 |>.pk 5;cases G;exact wp_exit (m4 i3 i4 i5 i6 i7 l2.2.f1 l2.2.f2 (k9 _ rfl) I M e2 e3 e4 y6 y7 y8 b2 E U w (J.sub _ rfl) X)
   refine wp_skip (y9 _ _ ?_);refine ws λJ2 z2=>xk 5 J rfl λU J=>x_l G J rfl λJ3 _ U J G=>?_;obtain⟨J4,i9,G⟩:=bnd G;obtain⟨z3,z4,z5,z6,m8⟩:=aLf E i9;refine x_v (v:=.slice z3 z4 z5) J (aD9 z6 (aBc gW hN rfl (J.ev rfl) (J.ev rfl) (J.ev rfl) (mJ (X.imm 5 E rfl) i9).1 (mJ (X.imm 5 E rfl) i9).2.1 (mJ (X.imm 5 E rfl) i9).2.2.1)) rfl λU J=>?_;replace X:=(aU (x:=l2.2) (X.pk 1 |>.pk 1)).pk 3 |>.pk 3;replace X:=(aF (x:=(⟨i3,i4,i5,i6,i7⟩:S77)) X).pk 3 |>.pk 1 |>.pk 2;obtain⟨J5,z7,G⟩:=bnd G;refine x_c aY4 J rfl (oZ z7 X m8 (Imm.sub b3 b2) (Gb.sub e7 b2) :) λv U w a J=>?_;obtain⟨m9,n2,rfl,e5,X⟩:=a;have z8:=Imm.sub i8 e5;have z9:=Imm.sub E e5;have J6:=Imm.sub m8 e5;obtain⟨A2,A3,A4,X⟩:=aY X;obtain⟨A5,A6,A7,X⟩:=aJ (X.pk 2);refine nk 1 J rfl λU J=>z2 _ _ (aX J G rfl (λA8 G=>?_) λA8 G=>?_)
   ·refine nz 1 J rfl λU J=>?_;replace X:=X.drop 0 |>.drop 0 |>.drop 0 |>.drop 0 |>.drop 1;cases G;refine wp_ret ?_;have ht:=k9 _ rfl;subst ht;replace G:=x2;replace G:some false=some y:=G;cases G;refine hQ _ _ (lv Tryz.results3 J rfl ?_);exact⟨m9,n2,rfl,(Sub.trans b2 e5),X⟩
   refine wp_skip (y1 _ _ ?_);refine y0 _ _ (aC ?_);refine x_m J rfl λU J=>x_l G J rfl λJ7 _ U J G=>x_m J rfl λU J=>wpList_nil ?_;replace X:=X.pk 4 |>.pk 4 |>.pk 3 |>.pk 3 |>.pk 4 |>.pk 5;cases G;exact⟨_,x5 _ rfl,m9,n2,A5,A6,A7,A2,A3,A4,(Sub.trans b2 e5),z8,z9,J.sub _ rfl,X⟩
  cases G;exact wp_exit (m4 i3 i4 i5 i6 i7 l0 l1 (k9 _ rfl) I M e2 e3 e4 i0 i1 i2 b2 E U w (J.sub _ rfl) X)
 refine aC ?_;replace X:=X.pk 1;obtain⟨J8,A9,G⟩:=bnd G;refine x_c en8 J rfl (aDq A9 X b3 e7 :) λv U w a J=>?_;obtain⟨n3,n4,rfl,j0,X⟩:=a;have n5:=Imm.sub B0 j0;have l3:=Imm.sub B1 j0;refine xk 2 J rfl λU J=>bcG G (λe6 G=>?_) λe6 G=>?_
 ·refine ng 4 e6 J rfl rfl λU J=>?_;replace X:=X.pk 1;exact n6 true G n3 n4 j0 n5 l3 U w (J.sub _ rfl) X
 refine xg 1 e6 J rfl rfl λU J=>aH e6 J ?_ rfl;refine aW cK (X.imm 0 l3 rfl).2.1 J rfl λU J=>ng 2 e6 J rfl rfl λU J=>?_;replace X:=X.pk 1;exact n6 (decide (12<(N.length:Int))) G n3 n4 j0 n5 l3 U w (J.sub _ rfl) X
end Go.Proofs.YtdkpjpoajlmmfaaGreatDoor.M
namespace Go.Proofs.YtdkpjpoajlmmfaaGreatDoor.catalogScans
open Go Go.RowKit Go.ChangeShapes Go.WideShapes Go.ChangeAt Go.Proofs.YtdkpjpoajlmmfaaGreatDoor.E Go.Proofs.YtdkpjpoajlmmfaaGreatDoor.M
set_option linter.unusedVariables false
theorem own:ownKnob Tryz.prog.godebug=none:=by kernel_rfl
theorem aG5:laidOutB Tryz.prog=true:=by kernel_rfl
theorem gN0 : Tryz.prog.globalNamed "headrace/page.table" = some 0 := by kernel_rfl
theorem gT0:(Tryz.prog.globals[0]?).map (·.type)=some 174:=by kernel_rfl
theorem gN2 : Tryz.prog.globalNamed "internal/strconv.uint64pow10" = some 2 := by kernel_rfl
theorem gT2:(Tryz.prog.globals[2]?).map (·.type)=some 200:=by kernel_rfl
theorem aSv (os:Os) (args:Array Value):laidMetH Tryz.prog Rows.catalogScansRow.laid ((World.doorLaid Tryz.prog 400 os).forCall (λ_ _=>0) ⟨#[],args,[]⟩).memory :=
  laidMetH_of_parts3 (fuel:=8) (laidMet_of_run' 8 (by kernel_rfl) (by kernel_rfl)) (by kernel_rfl) (by kernel_rfl)
theorem aTp {W:World} (h:laidMetH Tryz.prog Rows.catalogScansRow.laid W):Imm (aF7 W) W (kI .u32) (some ⟨0,0,none⟩) 16 16 M.bX:=by
  rw [MakeChecks.laidMetH_plain _ _ _ (by kernel_rfl)] at h;replace h := h.filter (fun x => x.1 == "headrace/page.table")
  exact aWn gN0 gT0 Tryz.underlying174 Tryz.underlying67 bD0 rfl (by decide) h
theorem aTq {W:World} (h:laidMetH Tryz.prog Rows.catalogScansRow.laid W):Gb (aF7 W) W 2 .u64 M.bK:=by
  rw [MakeChecks.laidMetH_plain _ _ _ (by kernel_rfl)] at h;replace h := h.filter (fun x => x.1 == "internal/strconv.uint64pow10")
  exact aZw gN2 gT2 Tryz.underlying200 Tryz.underlying24 aVg (by kernel_rfl) h
def aYt:Prop:=∀ (a0:(List M.S61)) (a:(List Int)) (a2:M.S26) (a3:Int),(gL 48 M.g61) a0->(gL 1 (gI .u8)) a->M.g26 a2->(gI .u8) a3->M.lT a0 a a2 a3=some true
set_option maxRecDepth 100000 in
theorem aZj (I:aYt) (os:Os) (started:os.Started) (H:Type) (enc:TypeId×Value->H) :
    ReturnsInHanded {} Tryz.checked os 3 .any (λw args=>(Rows.catalogScansSpec.pre enc Tryz.prog Tryz.f3 [] false w args/\laidMetH Tryz.prog Rows.catalogScansRow.laid w)/\sizedMet enc Tryz.prog Tryz.f3 (OpenSpec.ofChange Rows.catalogScansSpec) false w args)
      (Rows.catalogScansSpec.post enc Tryz.prog Tryz.f3 false true false false):=by
  refine returnsInHanded_of_change_and (C:=Tryz.checked) (X:=λw _=>laidMetH Tryz.prog Rows.catalogScansRow.laid w) (λ_ _ _ J h=>h.of_heap J) own started (by kernel_rfl) Tryz.func3
    (ChangeSpec.witness_shaped (enc:=enc) (C:=Tryz.checked) (os:=os) (X:=λw _=>laidMetH Tryz.prog Rows.catalogScansRow.laid w) false (World.doorLaid Tryz.prog 400 os) #[.slice none 0 0,.slice none 0 0,.agg #[.int .u64 0,.int .u64 0,.int .i64 0,.int .i64 0],.int .u8 0] 8 rfl (World.shaped_of_RefB (by kernel_rfl) (by kernel_rfl)) (by kernel_rfl) (by kernel_rfl) (by kernel_rfl) (aSv os _)) ?_
  intro W base args ds gs before f g c3 i hL _;have a:(DataW.weightsEach Tryz.prog (Tryz.f3.params.toList++Rows.catalogScansSpec.plain.varTypes Tryz.prog) (ds++gs)).all (· <= reachBytes)=true:=i
  have c:∀ (j:Nat) t v,Tryz.f3.params[j]?=some t->args[j]?=some v->Value.okWide Tryz.prog W .any base t v:=f;have K:=g;obtain⟨p,q,k,N,rfl,c4,c5⟩:=g;have hA:DataW.TrodAll enc Tryz.prog W 0 (λ_=>true) true Tryz.f3.params.toList args.toList ds p:=k;rw [Tryz.params3] at hA c a;obtain⟨v0,c6,d0,c8,O,q0,d4,rfl,rfl,h0,P⟩:=trodAll_cons hA;obtain⟨l,d5,d1,d7,p1,q1,rfl,rfl,rfl,n,Q⟩:=trodAll_cons P;obtain⟨o,d9,d2,e1,p2,q2,rfl,rfl,rfl,r,R⟩:=trodAll_cons Q;obtain⟨v3,e3,d3,e5,p3,q3,rfl,rfl,rfl,s,S⟩:=trodAll_cons R;obtain⟨rfl,rfl,rfl⟩:=trodAll_nil S;obtain rfl:args=#[v0,l,o,v3]:=by cases args;simp_all
  obtain⟨rfl,rfl⟩:=trodVars_none N;have u:=h0;have T:∀ x∈O,x.block<W.heap.size:=by obtain⟨m,hm⟩:=u;exact DataW.trod_lt m _ _ _ hm
  obtain⟨y,U,Y⟩:=Opens.arg (bCc Tryz.underlying22 bAl (Nat.succ_pos _) bDx op61) h0 (Wt.of a (j:=0) rfl rfl);obtain⟨z,A,B,rfl⟩:=okWide_slice Tryz.underlying22 (c 0 22 v0 rfl rfl);obtain⟨a0,a1,a2,a3,i0⟩:=U;cases (show [Value.slice z A B]=[Value.slice a0 a1 a2] from a3);have D:=n;have a4:∀ x∈p1,x.block<W.heap.size:=by obtain⟨m,hm⟩:=D;exact DataW.trod_lt m _ _ _ hm
  obtain⟨E,a5,g1⟩:=Opens.arg (bCc Tryz.underlying23 ce5 (Nat.succ_pos _) by5 (opI Tryz.underlying5)) n (Wt.of a (j:=1) rfl rfl);obtain⟨A1,n1,c1,rfl⟩:=okWide_slice Tryz.underlying23 (c 1 23 l rfl rfl);obtain⟨a7,a8,a9,b1,i1⟩:=a5;cases (show [Value.slice A1 n1 c1]=[Value.slice a7 a8 a9] from b1);have F:=r;have b3:∀ x∈p2,x.block<W.heap.size:=by obtain⟨m,hm⟩:=F;exact DataW.trod_lt m _ _ _ hm
  obtain⟨b,b4,g2⟩:=Opens.arg op26 r (Wt.of a (j:=2) rfl rfl);obtain⟨⟨u2⟩,rfl,_⟩:=okWide_struct Tryz.underlying26 (c 2 26 o rfl rfl);cases (show u2=[.int .u64 b.f0,.int .u64 b.f1,.int .i64 b.f2,.int .i64 b.f3] from b4);have G:=s;have b7:∀ x∈p3,x.block<W.heap.size:=by obtain⟨m,hm⟩:=G;exact DataW.trod_lt m _ _ _ hm
  obtain⟨d,b8,g3⟩:=Opens.arg (opI Tryz.underlying5) s (Wt.of a (j:=3) rfl rfl);obtain⟨u3,rfl⟩:=okWide_int Tryz.underlying5 (c 3 5 v3 rfl rfl);cases (show [Value.int .u8 u3]=[Value.int .u8 d] from b8);clear k f i a;refine Calls.mono (M.aBy (Z:=aF7 W) (wz:=W) y E b d z A B A1 n1 c1 (I y E b d Y g1 g2 g3) i0 i1 (aTp hL) (aTq hL) (L:=[]) (SH.start W)) ?_;rintro e W' ⟨v,rfl,Z',wz',rfl,hs,hS⟩;have bel:=SH.below hS hs;exact⟨_,rfl,_,_,_,[],_,[],K,trodAll_mk1 (shut_bool Tryz.underlying4 _),(trodAll_cons_mk (Below.trod aG5 (by kernel_rfl) (of_decide_eq_true (by kernel_rfl)) u bel T) (trodAll_cons_mk (Below.trod aG5 (by kernel_rfl) (of_decide_eq_true (by kernel_rfl)) D bel a4) (trodAll_cons_mk (Below.trod aG5 (by kernel_rfl) (of_decide_eq_true (by kernel_rfl)) F bel b3) (trodAll_cons_mk (Below.trod aG5 (by kernel_rfl) (of_decide_eq_true (by kernel_rfl)) G bel b7) trodAll_mk0)))),rfl,bel.frame _,λh=>by cases h⟩
theorem bE9 (a:aYt):Rows.catalogScansRow.holds Tryz.pinned (OpenSpec.ofChange Rows.catalogScansSpec) :=
  OpenClaim.holds_of_wide 3 Tryz.f3 rfl rfl rfl rfl rfl rfl rfl ⟨rfl,rfl,rfl,rfl,rfl⟩ rfl rfl rfl rfl rfl (by kernel_rfl) Tryz.func3 (by kernel_rfl)
    (of_decide_eq_true (by kernel_rfl)) (by unfold Func.isWrapper;first | (rw [if_pos (by decide +kernel)];kernel_rfl) | (rw [if_neg (by decide +kernel)];exact⟨rfl,rfl⟩))
    (λos started H enc _=>aZj a os started H enc)
def hrn:Bool×String:=Rows.catalogScansCard.stood.harness
theorem card (a:aYt):Rows.CatalogScansCardSaid :=
  Claim7.holds_tied_plain_at .later [] [.data,.data,.data,.data] true hrn true
    (bE9 a) (λ_ h=>by cases h) (by kernel_rfl) (λ_ h=>by cases h) catalogScans_row_tie rfl ⟨rfl,rfl⟩ (by kernel_rfl) rfl
    (λf fn hf b=>by
      obtain rfl : f = 3 := Option.some.inj ((show Tryz.prog.funcNamed "headrace/headracelaw08.CatalogScans" = some 3 by kernel_rfl).symm.trans hf) |>.symm
      obtain rfl:fn=Tryz.f3:=(Option.some.inj (Tryz.func3.symm.trans b)).symm;exact⟨by kernel_rfl,λj t ht=>by
        rw [Tryz.params3] at ht;have hm:t∈[22,23,26,5]:=by simpa using Array.mem_of_getElem? ht
        have c:([22,23,26,5].all λu => !Tryz.prog.wantsStandIn u)=true:=by kernel_rfl
        exact (show Tryz.prog.wantsStandIn t=false by simpa using List.all_eq_true.1 c t hm)⟩)
    (by kernel_rfl)
end Go.Proofs.YtdkpjpoajlmmfaaGreatDoor.catalogScans
namespace Go.Proofs.YtdkpjpoajlmmfaaGreatDoor.P
open Go Go.RowKit Go.Proofs.YtdkpjpoajlmmfaaGreatDoor.E Go.Proofs.YtdkpjpoajlmmfaaGreatDoor.M
set_option linter.unusedVariables false
set_option linter.unusedSectionVars false
theorem aOc {α:Type} (xs:List α) (n:Nat):at_ xs (n:Int)=xs[n]?:=by simp [at_]
theorem bG {α:Type} {xs:List α} {i:Int} {n:Nat} {x:α} (hi:i=n) (h:xs[n]?=some x):at_ xs i=some x:=by subst hi;rw [aOc,h]
theorem qV {α:Type} {xs:List α} {l u:Nat} (h:l<=u) (hu:u<=xs.length):jX xs (l:Int) (u:Int)=some ((xs.take u).drop l):=by unfold jX;rw [if_pos (by omega)];simp
theorem bN {α:Type} {p:Prop} [Decidable p] {x:Option α} (h:p):chk p x=x:=if_pos h
theorem w64 {n:Int} (h : -9223372036854775808<=n) (a:n<=9223372036854775807):IntKind.i64.wrap n=n:=IntWalk.i64_in n ⟨h,a⟩
theorem nN {n:Int} (h:0<=n) (a:n<18446744073709551616):IntKind.u64.wrap n=n:=IntWalk.u64_in n ⟨h,by omega⟩
theorem u8w {n:Int} (h:0<=n) (a:n<256):IntKind.u8.wrap n=n:=IntWalk.u8_in n ⟨h,by omega⟩
theorem lt_ {α β:Type} (e:α) (f:α->Option β):ltt e f=f e:=rfl
theorem aP9 {σ τ:Type} {b:σ->Option (σ⊕τ)} (f:Nat->σ) {t:τ}:∀ (n:Nat) (i:Nat),(∀ k,i<=k->k<i+n->b (f k)=some (.inl (f (k+1))))->b (f (i+n))=some (.inr t)->loop b (f i)=some t
 | 0,i,_,he=>bC he
 | n+1,i,hs,he=>(cH (hs i (Nat.le_refl _) (by omega))).trans (aP9 f n (i+1) (λk a c=>hs k (by omega) (by omega)) (by rw [show i+1+n=i+(n+1) by omega];exact he))
theorem iC {σ τ:Type} {b:σ->Option (σ⊕τ)} (f:Nat->σ) {t:τ} (n:Nat) (hs:∀ k,k<n->b (f k)=some (.inl (f (k+1)))) (he:b (f n)=some (.inr t)):loop b (f 0)=some t :=
 aP9 f n 0 (λk _ h=>hs k (by omega)) (by simpa using he)
theorem fG (n a:Nat):BitVec.ofInt n (a:Int)=BitVec.ofNat n a:=BitVec.ofInt_natCast n a
theorem aFd (a:Nat):IntKind.u64.wrap (a:Int)=((a % 18446744073709551616:Nat):Int):=by rw [IntKind.wrap_u64];omega
theorem xD (a:Nat):IntKind.u8.wrap (a:Int)=((a % 256:Nat):Int):=by rw [IntKind.wrap_u8];omega
theorem aH6 {a b:Nat} (c:a<18446744073709551616) (hb:b<18446744073709551616):aA3 .u64 (a:Int) (b:Int)=((a &&& b:Nat):Int):=by unfold aA3;rw [fG,fG,aFd];have h:a &&& b<18446744073709551616:=Nat.lt_of_le_of_lt Nat.and_le_left c;simp only [BitVec.toNat_and,BitVec.toNat_ofNat,show IntKind.u64.bits=64 from rfl];rw [Nat.mod_eq_of_lt (show a<2 ^ 64 by omega),Nat.mod_eq_of_lt (show b<2 ^ 64 by omega),Nat.mod_eq_of_lt h]
theorem aV0 {a b:Nat} (c:a<256) (hb:b<256):aA3 .u8 (a:Int) (b:Int)=((a &&& b:Nat):Int):=by unfold aA3;rw [fG,fG,xD];have h:a &&& b<256:=Nat.lt_of_le_of_lt Nat.and_le_left c;simp only [BitVec.toNat_and,BitVec.toNat_ofNat,show IntKind.u8.bits=8 from rfl];rw [Nat.mod_eq_of_lt (show a<2 ^ 8 by omega),Nat.mod_eq_of_lt (show b<2 ^ 8 by omega),Nat.mod_eq_of_lt h]
theorem aV3 {a b:Nat} (c:a<18446744073709551616) (hb:b<18446744073709551616):ior .u64 (a:Int) (b:Int)=((a ||| b:Nat):Int):=by unfold ior;rw [fG,fG,aFd];have h:a ||| b<2 ^ 64:=Nat.or_lt_two_pow (show a<2 ^ 64 by omega) (show b<2 ^ 64 by omega);simp only [BitVec.toNat_or,BitVec.toNat_ofNat,show IntKind.u64.bits=64 from rfl];rw [Nat.mod_eq_of_lt (show a<2 ^ 64 by omega),Nat.mod_eq_of_lt (show b<2 ^ 64 by omega),Nat.mod_eq_of_lt (show a ||| b<18446744073709551616 from h)]
theorem aTf {a b:Nat} (c:a<256) (hb:b<256):ior .u8 (a:Int) (b:Int)=((a ||| b:Nat):Int):=by unfold ior;rw [fG,fG,xD];have h:a ||| b<2 ^ 8:=Nat.or_lt_two_pow (show a<2 ^ 8 by omega) (show b<2 ^ 8 by omega);simp only [BitVec.toNat_or,BitVec.toNat_ofNat,show IntKind.u8.bits=8 from rfl];rw [Nat.mod_eq_of_lt (show a<2 ^ 8 by omega),Nat.mod_eq_of_lt (show b<2 ^ 8 by omega),Nat.mod_eq_of_lt (show a ||| b<256 from h)]
theorem aTi {a b:Nat} (c:a<18446744073709551616) (hb:b<18446744073709551616):aAf .u64 (a:Int) (b:Int)=((a ^^^ b:Nat):Int):=by unfold aAf;rw [fG,fG,aFd];have h:a ^^^ b<2 ^ 64:=Nat.xor_lt_two_pow (show a<2 ^ 64 by omega) (show b<2 ^ 64 by omega);simp only [BitVec.toNat_xor,BitVec.toNat_ofNat,show IntKind.u64.bits=64 from rfl];rw [Nat.mod_eq_of_lt (show a<2 ^ 64 by omega),Nat.mod_eq_of_lt (show b<2 ^ 64 by omega),Nat.mod_eq_of_lt (show a ^^^ b<18446744073709551616 from h)]
theorem aFc (n:Nat):(2:Int) ^ n=((2 ^ n:Nat):Int):=(Int.natCast_pow 2 n).symm
theorem kZ {k:IntKind} (a n:Nat) (h:n<=k.bits):nX k (a:Int) (n:Int)=((a / 2 ^ n:Nat):Int):=by unfold nX;rw [Int.toNat_natCast,Nat.min_eq_left h,aFc,Int.fdiv_eq_ediv_of_nonneg _ (Int.natCast_nonneg _)];rfl
theorem aNe (a n:Nat) (h:n<=64):wL .u64 (a:Int) (n:Int)=((a * 2 ^ n % 18446744073709551616:Nat):Int):=by unfold wL;rw [Int.toNat_natCast,show min n IntKind.u64.bits=n from Nat.min_eq_left h,aFc, ← Int.natCast_mul,aFd]
theorem aV4 (a n:Nat) (h:n<=8):wL .u8 (a:Int) (n:Int)=((a * 2 ^ n % 256:Nat):Int):=by unfold wL;rw [Int.toNat_natCast,show min n IntKind.u8.bits=n from Nat.min_eq_left h,aFc, ← Int.natCast_mul,xD]
theorem aA7 {a n:Nat} (h:a<2 ^ n) (b:Nat):a ||| (b * 2 ^ n)=a+b * 2 ^ n:=by rw [Nat.or_comm,Nat.mul_comm, ← Nat.two_pow_add_eq_or_of_lt h,Nat.add_comm]
def uv (n:Nat):List Int:=if h:n<128 then [(n:Int)] else ((n % 128+128:Nat):Int)::uv (n / 128)
termination_by n
decreasing_by omega
theorem aCq {n:Nat} (h:n<128):uv n=[(n:Int)]:=by rw [uv,dif_pos h]
theorem aCp {n:Nat} (h:¬ n<128):uv n=((n % 128+128:Nat):Int)::uv (n / 128):=by rw [uv,dif_neg h]
theorem aKo:∀ (k n:Nat),n<128 ^ (k+1)->(uv n).length<=k+1
 | 0,n,h=>by rw [aCq (by simpa using h)];simp
 | k+1,n,h=>by
  by_cases hn:n<128
  ·rw [aCq hn];simp
  ·rw [aCp hn,List.length_cons];have:=aKo k (n / 128) (by rw [Nat.pow_succ] at h;exact Nat.div_lt_of_lt_mul (by rw [Nat.mul_comm];exact h));omega
theorem aO {n:Nat} (h:n<18446744073709551616):(uv n).length<=10:=aKo 9 n (by omega)
set_option maxRecDepth 100000 in
theorem aZl:∀ m:Fin 256,(m.val ||| 128)=m.val % 128+128:=by decide
theorem sV (n:Nat):∀ (a0:List Int),n<18446744073709551616->a0.length+(uv n).length<=140737488355328->fX a0 (n:Int)=some (a0++uv n):=by
 induction n using Nat.strongRecOn with
 | _ n ih =>
  intro a0 h hl;unfold fX;by_cases hn:n<128
  ·rw [bC (t:=(a0,(n:Int))) (by
    show lR a0 (n:Int)=_;unfold lR;rw [if_neg (by simp only [decide_eq_true_eq];omega)])]
   simp only [Option.bind_some];unfold rP uP;rw [aCq hn] at hl ⊢;rw [lt_,u8w (by omega) (by omega),bN (by simpa using hl)]
  ·have c:=hl;rw [aCp hn,List.length_cons] at c;have d:IntKind.u8.wrap (n:Int)=((n % 256:Nat):Int):=xD n;have e:ior .u8 ((n % 256:Nat):Int) 128=((n % 128+128:Nat):Int):=by have:=aTf (a:=n % 256) (b:=128) (by omega) (by omega);rw [show ((128:Nat):Int)=128 from rfl] at this;rw [this,aZl ⟨n % 256,by omega⟩];simp only;omega
   have f:nX .u64 (n:Int) 7=((n / 128:Nat):Int):=kZ (k:=.u64) n 7 (by decide);rw [cH (s':=(a0++[((n % 128+128:Nat):Int)],((n / 128:Nat):Int))) (by
    show lR a0 (n:Int)=_;unfold lR;rw [if_pos (by simp only [decide_eq_true_eq];omega),lt_,d,lt_,e,bN (by simp;omega),lt_,f])]
   have:=ih (n / 128) (by omega) (a0++[((n % 128+128:Nat):Int)]) (by omega) (by simp;omega);unfold fX at this;rw [this,aCp hn];simp
def zz (i:Int):Nat:=if i<0 then (-(i+1)).toNat * 2+1 else i.toNat * 2
def uz (n:Nat):Int:=if n % 2=1 then -((n / 2:Nat):Int) - 1 else ((n / 2:Nat):Int)
theorem bC0 (i:Int):uz (zz i)=i:=by unfold uz zz;split <;> split <;> omega
def i64 (i:Int):Prop := -9223372036854775808<=i/\i<=9223372036854775807
theorem wU {i:Int} (h:i64 i):zz i<18446744073709551616:=by unfold i64 at h;unfold zz;split <;> omega
theorem aB5 (x:Int):i64 (IntKind.i64.wrap x):=by rw [IntWalk.i64_left];unfold wrap64 i64;omega
theorem aU4 {a:Nat} (h:a<18446744073709551616):aAf .u64 (a:Int) 18446744073709551615=((18446744073709551615 - a:Nat):Int):=by show IntKind.u64.wrap (((BitVec.ofInt 64 (a:Int) ^^^ BitVec.allOnes 64).toNat:Nat):Int)=_;rw [fG,BitVec.xor_allOnes,aFd,BitVec.toNat_not,BitVec.toNat_ofNat,Nat.mod_eq_of_lt (show a<2 ^ 64 by omega)];omega
theorem bDu {i:Int} (h:i64 i):aAf .u64 (IntKind.u64.wrap (wL .i64 i 1)) (IntKind.u64.wrap (nX .i64 i 63))=(zz i:Int):=by
 unfold i64 at h;have a:wL .i64 i 1=IntKind.i64.wrap (i * 2):=rfl;have b:nX .i64 i 63=if i<0 then -1 else 0:=by unfold nX;rw [show (63:Int).toNat=63 from rfl,show min 63 IntKind.i64.bits=63 from rfl,Int.fdiv_eq_ediv_of_nonneg _ (by decide)];split <;> omega
 rw [a,b];have c:IntKind.u64.wrap (IntKind.i64.wrap (i * 2))=(i * 2) % 18446744073709551616:=by rw [IntKind.wrap_u64,IntWalk.i64_left];unfold wrap64;omega
 rw [c];unfold zz;by_cases hi:i<0
 ·rw [if_pos hi,if_pos hi,show IntKind.u64.wrap (-1)=18446744073709551615 from rfl];obtain⟨m,hm⟩:∃ m:Nat,(i * 2) % 18446744073709551616=(m:Int):=⟨((i * 2) % 18446744073709551616).toNat,by omega⟩;rw [hm,aU4 (by omega)];omega
 ·rw [if_neg hi,if_neg hi,show IntKind.u64.wrap 0=((0:Nat):Int) from rfl];obtain⟨m,hm⟩:∃ m:Nat,(i * 2) % 18446744073709551616=(m:Int):=⟨((i * 2) % 18446744073709551616).toNat,by omega⟩;rw [hm,aTi (by omega) (by omega),Nat.xor_zero];omega
theorem zG {i:Int} (h:i64 i) (a0:List Int) (hl:a0.length+10<=140737488355328):kW a0 i=some (a0++uv (zz i)):=by unfold kW;have:=aO (wU h);simp only [lt_,bDu h,sV _ a0 (wU h) (by omega),Option.bind_some]
theorem aEh (s:List UInt8) (a0:List Int) (hs:s.length<=9223372036854775807) (hl:a0.length+s.length+10<=140737488355328):mX a0 s=some (a0++uv s.length++stb s):=by unfold mX;have:=aO (n:=s.length) (by omega);rw [lt_,nN (by omega) (by omega),sV _ a0 (by omega) (by omega)];simp only [Option.bind_some];rw [bN (by simp;omega)]
def Bs (xs:List Int):Prop:=∀ b∈xs,0<=b/\b<256
theorem Bs.nil:Bs []:=λ_ h=>by cases h
theorem Bs.cons {b:Int} {xs:List Int} (h:Bs (b::xs)):(0<=b/\b<256)/\Bs xs:=⟨h b List.mem_cons_self,λc hc=>h c (List.mem_cons_of_mem _ hc)⟩
theorem Bs.mk {b:Int} {xs:List Int} (hb:0<=b/\b<256) (h:Bs xs):Bs (b::xs):=λc hc=>by
 rcases List.mem_cons.1 hc with rfl | hc
 ·exact hb
 ·exact h c hc
theorem Bs.app {xs ys:List Int} (h:Bs xs) (a:Bs ys):Bs (xs++ys):=λc hc=>(List.mem_append.1 hc).elim (h c) (a c)
theorem Bs.l {xs ys:List Int} (h:Bs (xs++ys)):Bs xs:=λc hc=>h c (List.mem_append.2 (.inl hc))
theorem Bs.r {xs ys:List Int} (h:Bs (xs++ys)):Bs ys:=λc hc=>h c (List.mem_append.2 (.inr hc))
theorem Bs.drop {xs:List Int} (h:Bs xs) (n:Nat):Bs (xs.drop n):=λc hc=>h c (List.mem_of_mem_drop hc)
theorem Bs.take {xs:List Int} (h:Bs xs) (n:Nat):Bs (xs.take n):=λc hc=>h c (List.mem_of_mem_take hc)
theorem Bs.uv (n:Nat):Bs (uv n):=by
 induction n using Nat.strongRecOn with
 | _ n ih =>
  by_cases hn:n<128
  ·rw [aCq hn];exact Bs.mk (by omega) Bs.nil
  ·rw [aCp hn];exact Bs.mk (by omega) (ih _ (by omega))
theorem Bs.stb (s:List UInt8):Bs (stb s):=by intro c hc;unfold E.stb at hc;obtain⟨b,_,rfl⟩:=List.mem_map.1 hc;have:=b.toNat_lt;omega
def pB:List Int->Option (Int×List Int)
 | []=>none
 | b::r=>some (b,r)
def pV (i n:Nat):List Int->Option (Nat×List Int)
 | []=>none
 | b::r=>if i<9\/(i=9/\b<2) then
   (if b<128 then (if i=0\/0<b then some (n+b.toNat % 128 * 2 ^ (7 * i),r) else none) else pV (i+1) (n+b.toNat % 128 * 2 ^ (7 * i)) r)
  else none
def pU (most:Int) (xs:List Int):Option (Int×List Int):=match pV 0 0 xs with
 | some (n,r)=>if (n:Int)<=most then some ((n:Int),r) else none
 | none=>none
def pI (xs:List Int):Option (Int×List Int):=match pU 18446744073709551615 xs with
 | some (n,r)=>some (uz n.toNat,r)
 | none=>none
def pT (most:Int) (xs:List Int):Option (List UInt8×List Int):=match pU (IntKind.u64.wrap most) xs with
 | some (n,r)=>if n<=(r.length:Int) then some (bts (r.take n.toNat),r.drop n.toNat) else none
 | none=>none
def IsR {ρ:Type} (o:Option ((ρ×S140)⊕S140)) (p:Option (ρ×List Int)):Prop :=
 match p with
 | some (a,r)=>o=some (.inl (a,⟨r⟩))
 | none=>∃ s,o=some (.inr s)
theorem IsR.cases {ρ:Type} {o:Option ((ρ×S140)⊕S140)} {p:Option (ρ×List Int)} (h:IsR o p):(∃ a r,p=some (a,r)/\o=some (.inl (a,⟨r⟩)))\/(p=none/\∃ s,o=some (.inr s)):=by
 unfold IsR at h;split at h
 ·exact .inl ⟨_,_,rfl,h⟩
 ·exact .inr ⟨rfl,h⟩
theorem hF {α β γ:Type} (a:α) (f:α->Option γ) (g:β->Option γ):fL (.inl a) f g=f a:=rfl
theorem lY (s:S140):aI s true=some (.inl s):=rfl
theorem rK (s:S140):aI s false=some (.inr s):=rfl
theorem aKq (xs:List Int):IsR (fW ⟨xs⟩) (pB xs):=by
 unfold fW;cases xs with
 | nil=>exact⟨_,rfl⟩
 | cons b r =>
  rw [show decide (0<(((⟨b::r⟩:S140).f0.length:Nat):Int))=true by simp,lY];simp only [Option.bind_some,hF];have a:at_ (b::r) 0=some b:=rfl;have c:jX (b::r) 1 ((b::r).length:Int)=some r:=by have:=qV (xs:=b::r) (l:=1) (u:=(b::r).length) (by simp) (Nat.le_refl _);rw [show ((1:Nat):Int)=1 from rfl,List.take_length] at this;exact this
  rw [a];simp only [Option.bind_some];rw [c];rfl
theorem aVa (a:Nat):a &&& 127=a % 128:=Nat.and_two_pow_sub_one_eq_mod a 7
theorem aX6:∀ (xs:List Int) (i n m:Nat) (r:List Int),n<2 ^ (7 * i)->n<18446744073709551616->pV i n xs=some (m,r)->m<18446744073709551616/\∃ p,xs=p++r/\0<p.length
 | [],i,n,m,r,_,_,h=>by cases h
 | b::xs,i,n,m,r,h1,h2,h=>by
  unfold pV at h;split at h
  ·rename_i hc;have a:n+b.toNat % 128 * 2 ^ (7 * i)<18446744073709551616/\n+b.toNat % 128 * 2 ^ (7 * i)<2 ^ (7 * (i+1)):=by
    have hp:2 ^ (7 * (i+1))=128 * 2 ^ (7 * i):=by rw [show 7 * (i+1)=7+7 * i by omega,Nat.pow_add]
    have hm:b.toNat % 128 * 2 ^ (7 * i)<=127 * 2 ^ (7 * i):=Nat.mul_le_mul_right _ (by omega);refine⟨?_,by rw [hp];omega⟩;rcases hc with hc | ⟨hc,hb⟩
    ·have:2 ^ (7 * i)<=2 ^ 56:=Nat.pow_le_pow_right (by decide) (by omega);omega
    ·subst hc;have:b.toNat % 128 * 2 ^ (7 * 9)<=1 * 2 ^ (7 * 9):=Nat.mul_le_mul_right _ (by omega);omega
   split at h
   ·split at h
    ·cases h;exact⟨a.1,[b],rfl,by simp⟩
    ·cases h
   ·obtain⟨c,p,rfl,d⟩:=aX6 xs (i+1) _ m r a.2 a.1 h;exact⟨c,b::p,rfl,by simp⟩
  ·cases h
theorem aXh (most:Int):∀ (xs:List Int) (i n:Nat),Bs xs->i<=10->n<2 ^ (7 * i)->n<18446744073709551616 ->
  IsR (loop (λs:List Int×Int×Int=>eD most s.1 s.2.1 s.2.2) (xs,(n:Int),(i:Int))) (match pV i n xs with | some (m,r)=>if (m:Int)<=most then some ((m:Int),r) else none | none=>none)
 | [],i,n,hB,hi,h1,h2=>⟨⟨[]⟩,bC rfl⟩
 | b::xs,i,n,hB,hi,h1,h2=>by
  obtain⟨hb,u⟩:=hB.cons;generalize d:pV i n (b::xs)=pv;have p:fW ⟨b::xs⟩=some (.inl (b,⟨xs⟩)):=aKq (b::xs);obtain⟨c,rfl⟩:∃ c:Nat,b=(c:Int):=⟨b.toNat,by omega⟩;have v:(c:Int)<128\/128<=(c:Int):=by omega
  by_cases hc:i<9\/(i=9/\(c:Int)<2)
  ·
   have hp:2 ^ (7 * (i+1))=128 * 2 ^ (7 * i):=by rw [show 7 * (i+1)=7+7 * i by omega,Nat.pow_add]
   have hm:c % 128 * 2 ^ (7 * i)<=127 * 2 ^ (7 * i):=Nat.mul_le_mul_right _ (by omega);have l:c % 128 * 2 ^ (7 * i)<18446744073709551616/\n+c % 128 * 2 ^ (7 * i)<18446744073709551616:=by
    rcases hc with hc | ⟨hc,hb⟩
    ·have:2 ^ (7 * i)<=2 ^ 56:=Nat.pow_le_pow_right (by decide) (by omega);omega
    ·subst hc;have:c % 128 * 2 ^ (7 * 9)<=1 * 2 ^ (7 * 9):=Nat.mul_le_mul_right _ (by omega);omega
   have w:n+c % 128 * 2 ^ (7 * i)<2 ^ (7 * (i+1)):=by rw [hp];omega
   obtain⟨m,h⟩:∃ m,m=n+c % 128 * 2 ^ (7 * i):=⟨_,rfl⟩;have x:aA3 .u8 (c:Int) 127=((c % 128:Nat):Int):=by have:=aV0 (a:=c) (b:=127) (by omega) (by omega);rw [show ((127:Nat):Int)=127 from rfl] at this;rw [this,aVa]
   have y:IntKind.i64.wrap (7 * (i:Int))=((7 * i:Nat):Int):=by rw [w64 (by omega) (by omega)];omega
   have z:wL .u64 ((c % 128:Nat):Int) ((7 * i:Nat):Int)=((c % 128 * 2 ^ (7 * i):Nat):Int):=by rw [aNe _ _ (by omega),Nat.mod_eq_of_lt l.1]
   have A:ior .u64 (n:Int) ((c % 128 * 2 ^ (7 * i):Nat):Int)=(m:Int):=by rw [aV3 h2 l.1,aA7 h1,h]
   have j:eD most ((c:Int)::xs) (n:Int) (i:Int)=eC most (n:Int) (i:Int) ((c:Int),⟨xs⟩) xs:=by
    unfold eD;rw [p];simp only [Option.bind_some,hF];rcases hc with hc | ⟨hc,B⟩
    ·rw [if_pos (by simp only [decide_eq_true_eq];omega),lY];rfl
    ·rw [if_neg (by simp only [decide_eq_true_eq];omega),if_pos (by subst hc;rfl),show decide ((c:Int)<2)=true by simpa using B,lY];rfl
   have f:eC most (n:Int) (i:Int) ((c:Int),⟨xs⟩) xs=if (c:Int)<128 then (if (m:Int)<=most/\(i=0\/0<(c:Int)) then some (.inr (.inl ((m:Int),⟨xs⟩))) else some (.inr (.inr ⟨xs⟩))) else some (.inl (xs,(m:Int),((i+1:Nat):Int))):=by
    unfold eC;simp only [lt_];rw [x,nN (by omega) (by omega),y,bN (by omega),z,A];by_cases g:(c:Int)<128
    ·rw [if_pos (by simpa using g),if_pos g];by_cases e:(m:Int)<=most
     ·rw [if_pos (by simpa using e)];by_cases o:i=0
      ·subst o;rw [if_pos (by rfl),lY,if_pos ⟨e,.inl rfl⟩];rfl
      ·rw [if_neg (by simpa using o)];by_cases k:0<(c:Int)
       ·rw [show decide (0<(c:Int))=true by simpa using k,lY,if_pos ⟨e,.inr k⟩];rfl
       ·rw [show decide (0<(c:Int))=false by simpa using k,rK,if_neg (by rintro⟨_,q | q⟩;exact o q;exact k q)];rfl
     ·rw [if_neg (by simpa using e),rK,if_neg (λq=>e q.1)];rfl
    ·rw [if_neg (by simpa using g),if_neg g,w64 (by omega) (by omega)];rfl
   rw [pV,if_pos hc,Int.toNat_natCast, ← h] at d;rcases v with g | g
   ·rw [if_pos g] at f d;by_cases h0:i=0\/0<(c:Int)
    ·rw [if_pos h0] at d;subst d;simp only;by_cases e:(m:Int)<=most
     ·rw [if_pos ⟨e,h0⟩] at f;rw [if_pos e];exact bC (j.trans f)
     ·rw [if_neg (λq=>e q.1)] at f;rw [if_neg e];exact⟨_,bC (j.trans f)⟩
    ·rw [if_neg h0] at d;subst d;rw [if_neg (λq=>h0 q.2)] at f;exact⟨_,bC (j.trans f)⟩
   ·rw [if_neg (Int.not_lt.2 g)] at f d;rw [cH (j.trans f)];subst d;exact aXh most xs (i+1) m u (by omega) (by rw [h];exact w) (by rw [h];exact l.2)
  ·rw [pV,if_neg hc] at d;subst d;refine⟨_,bC (t:=Sum.inr ⟨xs⟩) ?_⟩;show eD most ((c:Int)::xs) (n:Int) (i:Int)=_;unfold eD;rw [p];simp only [Option.bind_some,hF];rw [if_neg (by simp only [decide_eq_true_eq];omega)];by_cases C:i=9
   ·rw [if_pos (by subst C;rfl),show decide ((c:Int)<2)=false by simp;omega,rK];rfl
   ·rw [if_neg (by simp;omega),rK];rfl
theorem aCu (most:Int) {xs:List Int} (hB:Bs xs):IsR (bB ⟨xs⟩ most) (pU most xs):=by
 unfold bB pU;have:=aXh most xs 0 0 hB (by omega) (by simp) (by omega);simp only [Int.natCast_zero] at this;rcases this.cases with ⟨a,r,b,c⟩ | ⟨b,s,c⟩
 ·rw [b];show _=_;rw [c];rfl
 ·rw [b];exact⟨s,by rw [c];rfl⟩
theorem tG {most:Int} {xs r:List Int} {n:Int} (h:pU most xs=some (n,r)):(0<=n/\n<18446744073709551616/\n<=most)/\∃ p,xs=p++r/\0<p.length:=by
 unfold pU at h;split at h
 ·rename_i m r' he;split at h
  ·cases h;obtain⟨b,a⟩:=aX6 _ _ _ _ _ (by simp) (by omega) he;exact⟨⟨by omega,by omega,by assumption⟩,a⟩
  ·cases h
 ·cases h
theorem aNl {most:Int} {xs r:List Int} {n:Int} (hB:Bs xs) (h:pU most xs=some (n,r)):Bs r:=by obtain⟨_,p,rfl,_⟩:=tG h;exact hB.r
theorem aSf (a:Nat):a &&& 1=a % 2:=Nat.and_two_pow_sub_one_eq_mod a 1
theorem aZ7 {a:Nat} (h:a<9223372036854775808):aAf .i64 (a:Int) (-1) = -(a:Int) - 1:=by show IntKind.i64.wrap (((BitVec.ofInt 64 (a:Int) ^^^ BitVec.allOnes 64).toNat:Nat):Int)=_;rw [fG,BitVec.xor_allOnes,BitVec.toNat_not,BitVec.toNat_ofNat,Nat.mod_eq_of_lt (show a<2 ^ 64 by omega),IntWalk.i64_left];unfold wrap64;omega
theorem bDh {a:Nat} (h:a<9223372036854775808):aAf .i64 (a:Int) 0=(a:Int):=by show IntKind.i64.wrap (((BitVec.ofInt 64 (a:Int) ^^^ 0#64).toNat:Nat):Int)=_;rw [fG,BitVec.xor_zero,BitVec.toNat_ofNat,Nat.mod_eq_of_lt (show a<2 ^ 64 by omega),w64 (by omega) (by omega)]
theorem bCz {n:Nat} (h:n<18446744073709551616):aAf .i64 (IntKind.i64.wrap (nX .u64 (n:Int) 1)) (IntKind.i64.wrap (0 - IntKind.i64.wrap (aA3 .u64 (n:Int) 1)))=uz n:=by
 have d:nX .u64 (n:Int) 1=((n / 2:Nat):Int):=kZ (k:=.u64) n 1 (by decide);have e:aA3 .u64 (n:Int) 1=((n % 2:Nat):Int):=by have:=aH6 (a:=n) (b:=1) h (by omega);rw [show ((1:Nat):Int)=1 from rfl] at this;rw [this,aSf]
 rw [d,e,w64 (n:=((n / 2:Nat):Int)) (by omega) (by omega),w64 (n:=((n % 2:Nat):Int)) (by omega) (by omega),w64 (by omega) (by omega)];unfold uz;by_cases c:n % 2=1
 ·rw [if_pos c,c,show (0:Int) - ((1:Nat):Int) = -1 from rfl,aZ7 (by omega)]
 ·rw [if_neg c,show n % 2=0 by omega,show (0:Int) - ((0:Nat):Int)=0 from rfl,bDh (by omega)]
theorem aHh {xs:List Int} (hB:Bs xs):IsR (cP ⟨xs⟩) (pI xs):=by
 unfold cP pI;rcases (aCu 18446744073709551615 hB).cases with ⟨a,r,b,c⟩ | ⟨b,s,c⟩
 ·rw [b,c];obtain⟨⟨d,e,_⟩,_⟩:=tG b;simp only [Option.bind_some,hF,lt_];have:=bCz (n:=a.toNat) (by omega);rw [show ((a.toNat:Nat):Int)=a by omega] at this;show _=_;rw [this]
 ·rw [b,c];exact⟨s,rfl⟩
theorem aQd {xs r:List Int} {n:Int} (hB:Bs xs) (h:pI xs=some (n,r)):Bs r/\i64 n/\∃ p,xs=p++r/\0<p.length:=by
 unfold pI at h;split at h
 ·rename_i m r' he;cases h;refine⟨aNl hB he,?_,(tG he).2⟩;have:=(tG he).1;unfold i64 uz;split <;> omega
 ·cases h
theorem aKz (most:Int) {xs:List Int} (hB:Bs xs) (hl:xs.length<9223372036854775808):IsR (fB ⟨xs⟩ most) (pT most xs):=by
 unfold fB pT;rw [lt_];rcases (aCu (IntKind.u64.wrap most) hB).cases with ⟨a,r,b,c⟩ | ⟨b,s,c⟩
 ·rw [b,c];obtain⟨⟨d,e,_⟩,p,hp,_⟩:=tG b;have hr:r.length<=xs.length:=by rw [hp];simp
  simp only [Option.bind_some,hF,lt_];rw [nN (by omega) (by omega)];obtain⟨n,rfl⟩:∃ n:Nat,a=(n:Int):=⟨a.toNat,by omega⟩;by_cases hn:(n:Int)<=(r.length:Int)
  ·rw [show decide ((n:Int)<=(r.length:Int))=true by simpa using hn,lY,if_pos hn];simp only [Option.bind_some,hF];have c1:=qV (xs:=r) (l:=0) (u:=n) (by omega) (by omega);have c2:=qV (xs:=r) (l:=n) (u:=r.length) (by omega) (by omega);rw [show ((0:Nat):Int)=0 from rfl,List.drop_zero] at c1;rw [List.take_length] at c2;rw [c1];simp only [Option.bind_some];rw [c2];rfl
  ·rw [show decide ((n:Int)<=(r.length:Int))=false by simpa using hn,rK,if_neg hn];exact⟨_,rfl⟩
 ·rw [b,c];exact⟨s,rfl⟩
theorem aX7:∀ (k:Nat) (m i n:Nat) (r:List Int),m<128 ^ (k+1)->k+i<=9->m * 2 ^ (7 * i)+n<18446744073709551616->(0<i->0<m)->pV i n (uv m++r)=some (n+m * 2 ^ (7 * i),r)
 | k,m,i,n,r,h,hi,hlt,h0=>by
  by_cases hm:m<128
  ·rw [aCq hm,List.singleton_append,pV];have b:i<9\/(i=9/\(m:Int)<2):=by
    rcases Nat.lt_or_ge i 9 with q | q
    ·exact .inl q
    ·have:i=9:=by omega
     subst this;refine .inr ⟨rfl,?_⟩;rcases Nat.lt_or_ge m 2 with a | a
     ·omega
     ·have:2 * 2 ^ (7 * 9)<=m * 2 ^ (7 * 9):=Nat.mul_le_mul_right _ a;omega
   rw [if_pos b,if_pos (by omega),if_pos (by rcases Nat.eq_zero_or_pos i with q | q;exact .inl q;have:=h0 q;exact .inr (by omega)),Int.toNat_natCast,Nat.mod_eq_of_lt hm]
  ·rw [aCp hm,List.cons_append,pV]
   match k,h,hi with
   | 0,h,_=>exact absurd (by simpa using h) hm
   | k+1,h,hi =>
    rw [if_pos (.inl (by omega)),if_neg (by omega),Int.toNat_natCast,show (m % 128+128) % 128=m % 128 by omega];have hp:2 ^ (7 * (i+1))=128 * 2 ^ (7 * i):=by rw [show 7 * (i+1)=7+7 * i by omega,Nat.pow_add]
    have c:m / 128 * (128 * 2 ^ (7 * i))+m % 128 * 2 ^ (7 * i)=m * 2 ^ (7 * i):=by rw [← Nat.mul_assoc, ← Nat.add_mul];congr 1;omega
    rw [aX7 k (m / 128) (i+1) _ r (by rw [Nat.pow_succ] at h;exact Nat.div_lt_of_lt_mul (by rw [Nat.mul_comm];exact h)) (by omega) (by rw [hp];omega) (λ_=>by omega),hp];congr 2;omega
theorem aIo {m:Nat} (h:m<18446744073709551616) (r:List Int) {most:Int} (hm:(m:Int)<=most):pU most (uv m++r)=some ((m:Int),r):=by unfold pU;rw [aX7 9 m 0 0 r (by omega) (by omega) (by simp;omega) (λq=>absurd q (by omega))];simp only [Nat.mul_zero,Nat.pow_zero,Nat.mul_one,Nat.zero_add];rw [if_pos hm]
theorem aNj {x:Int} (h:i64 x) (r:List Int):pI (uv (zz x)++r)=some (x,r):=by unfold pI;have:=wU h;rw [aIo this r (by omega)];simp only [Int.toNat_natCast,bC0]
def bl (n:Nat):Nat:=if h:n=0 then 0 else bl (n / 2)+1
termination_by n
decreasing_by omega
theorem aEk:bl 0=0:=by rw [bl,dif_pos rfl]
theorem aK1 {n:Nat} (h:0<n):bl n=bl (n / 2)+1:=by rw [bl,dif_neg (by omega)]
theorem bAi (n:Nat):n<2 ^ bl n:=by
 induction n using Nat.strongRecOn with
 | _ n ih =>
  rcases Nat.eq_zero_or_pos n with rfl | h
  ·rw [aEk];decide
  ·rw [aK1 h,Nat.pow_succ];have:=ih (n / 2) (by omega);omega
theorem aXj:∀ (k n:Nat),n<2 ^ k->bl n<=k
 | 0,n,h=>by
  have:n=0:=by simpa using h
  rw [this,aEk];exact Nat.le_refl _
 | k+1,n,h=>by
  rcases Nat.eq_zero_or_pos n with rfl | hp
  ·rw [aEk];omega
  ·rw [aK1 hp];have:=aXj k (n / 2) (by rw [Nat.pow_succ] at h;omega);omega
theorem aB2:∀ (k n:Nat),2 ^ k<=n->bl n=k+bl (n / 2 ^ k)
 | 0,n,_=>by simp
 | k+1,n,h=>by have hp:0<2 ^ k:=Nat.two_pow_pos k;rw [Nat.pow_succ] at h;rw [aK1 (by omega),aB2 k (n / 2) (by omega),Nat.div_div_eq_div_mul,Nat.pow_succ,Nat.mul_comm (2 ^ k) 2];omega
def V (w:Nat):List Nat->Nat
 | []=>0
 | d::ds=>d+2 ^ w * V w ds
def Lt (w:Nat) (ds:List Nat):Prop:=∀ d∈ds,d<2 ^ w
theorem Lt.tail {w d:Nat} {ds:List Nat} (h:Lt w (d::ds)):d<2 ^ w/\Lt w ds:=⟨h d List.mem_cons_self,λx hx=>h x (List.mem_cons_of_mem _ hx)⟩
theorem aU9 {w:Nat}:∀ {ds:List Nat},Lt w ds->V w ds<2 ^ (ds.length * w)
 | [],_=>by simp [V]
 | d::ds,h=>by
  have b:=h.tail.1;have a:=aU9 h.tail.2;simp only [V,List.length_cons];rw [Nat.add_mul,Nat.one_mul,Nat.pow_add,Nat.mul_comm (2 ^ (ds.length * w))];have:2 ^ w * V w ds+2 ^ w<=2 ^ w * 2 ^ (ds.length * w):=by rw [← Nat.mul_succ];exact Nat.mul_le_mul_left _ a
  omega
theorem aSd {w:Nat}:∀ {ds:List Nat},Lt w ds->∀ i,V w ds / 2 ^ (i * w)=V w (ds.drop i)
 | ds,_,0=>by simp
 | [],_,i+1=>by simp [V]
 | d::ds,h,i+1=>by rw [List.drop_succ_cons, ← aSd h.tail.2 i,Nat.add_mul,Nat.one_mul,Nat.add_comm (i * w),Nat.pow_add, ← Nat.div_div_eq_div_mul];congr 1;simp only [V];rw [Nat.add_mul_div_left _ _ (Nat.two_pow_pos w),Nat.div_eq_of_lt h.tail.1,Nat.zero_add]
theorem aXi {w:Nat} {ds:List Nat} (h:Lt w ds) {i d:Nat} (hd:ds[i]?=some d):V w ds / 2 ^ (i * w) % 2 ^ w=d:=by rw [aSd h,List.drop_eq_getElem_cons (List.getElem?_eq_some_iff.1 hd).1,(List.getElem?_eq_some_iff.1 hd).2,V,Nat.add_mul_mod_self_left];exact Nat.mod_eq_of_lt (h d (List.mem_of_getElem? hd))
def by_ (m v:Nat):List Nat:=(List.range m).map λj=>v / 2 ^ (8 * j) % 256
theorem tU (m v:Nat):(by_ m v).length=m:=by simp [by_]
theorem aHj {m v j:Nat} (h:j<m):(by_ m v)[j]?=some (v / 2 ^ (8 * j) % 256):=by unfold by_;rw [List.getElem?_map,List.getElem?_range h];rfl
theorem bAk (m v:Nat):Lt 8 (by_ m v):=by intro d hd;unfold by_ at hd;obtain⟨j,_,rfl⟩:=List.mem_map.1 hd;exact Nat.mod_lt _ (by decide)
theorem aSn {xs ys:List Nat} (hl:xs.length=ys.length) (h:∀ j:Nat,j<xs.length->xs[j]?=ys[j]?):xs=ys:=by
 apply List.ext_getElem? λj=>?_;rcases Nat.lt_or_ge j xs.length with a | a
 ·exact h j a
 ·rw [List.getElem?_eq_none a,List.getElem?_eq_none (by omega)]
theorem bAf:∀ (m v:Nat),v<2 ^ (8 * m)->V 8 (by_ m v)=v
 | 0,v,h=>by
  have:v=0:=by simpa using h
  subst this;rfl
 | m+1,v,h=>by
  have e:by_ (m+1) v=v % 256::by_ m (v / 256):=by
   refine aSn (by simp [tU]) λj a=>?_;rw [tU] at a;rw [aHj a];cases j with
   | zero=>simp
   | succ j =>
    rw [List.getElem?_cons_succ,aHj (by omega),show 8 * (j+1)=8+8 * j by omega,Nat.pow_add,Nat.div_div_eq_div_mul]
  rw [e,V,bAf m (v / 256) (by rw [show 8 * (m+1)=8+8 * m by omega,Nat.pow_add] at h;exact Nat.div_lt_of_lt_mul h)];exact Nat.mod_add_div v 256
def bt (v i:Nat):Nat:=v / 2 ^ i % 2
theorem aPq (v i:Nat):bt v i<2:=Nat.mod_lt _ (by decide)
theorem aIg (v i:Nat):v % 2 ^ (i+1)=v % 2 ^ i+bt v i * 2 ^ i:=by rw [Nat.pow_succ,Nat.mod_mul,bt,Nat.mul_comm]
theorem bAj {w:Nat} {ds:List Nat} (h:Lt w ds) {i k d:Nat} (hd:ds[i]?=some d) (hk:k<w):bt (V w ds) (i * w+k)=bt d k:=by
 unfold bt;have hm:=aXi h hd;rw [Nat.pow_add, ← Nat.div_div_eq_div_mul]
 conv=>rhs;rw [← hm]
 obtain⟨x,hx⟩:∃ x,x=V w ds / 2 ^ (i * w):=⟨_,rfl⟩;rw [← hx];obtain⟨j,rfl⟩:∃ j,w=k+(j+1):=⟨w - k - 1,by omega⟩;rw [Nat.pow_add,Nat.mod_mul_right_div_self,Nat.pow_succ,Nat.mul_comm (2 ^ j) 2,Nat.mod_mul_right_mod]
theorem aJ3 (v i q w:Nat) (hw:0<w) (f:q≠i / w):v % 2 ^ (i+1) / 2 ^ (q * w) % 2 ^ w=v % 2 ^ i / 2 ^ (q * w) % 2 ^ w:=by
 rw [aIg];rcases Nat.lt_or_ge (i / w) q with a | g
 ·
  have b:(i / w+1) * w<=q * w:=Nat.mul_le_mul_right _ a;have c:i<(i / w+1) * w:=by have h:=Nat.div_add_mod i w;have k:=Nat.mod_lt i hw;rw [Nat.add_mul,Nat.one_mul,Nat.mul_comm (i / w)];omega
  have d:2 ^ (i+1)<=2 ^ (q * w):=Nat.pow_le_pow_right (by decide) (by omega);have l:v % 2 ^ i<2 ^ i:=Nat.mod_lt _ (Nat.two_pow_pos i);have m:=aPq v i;have n:bt v i * 2 ^ i<=1 * 2 ^ i:=Nat.mul_le_mul_right _ (by omega);rw [Nat.pow_succ] at d;rw [Nat.div_eq_of_lt (by omega),Nat.div_eq_of_lt (by omega)]
 ·
  have a:q<i / w:=by omega
  have b:(q+1) * w<=i / w * w:=Nat.mul_le_mul_right _ a;have c:i / w * w<=i:=Nat.div_mul_le_self i w;obtain⟨j,rfl⟩:∃ j,i=q * w+w+j:=⟨i - (q * w+w),by rw [Nat.add_mul] at b;omega⟩;have e:bt v (q * w+w+j) * 2 ^ (q * w+w+j)=2 ^ (q * w) * (2 ^ w * (2 ^ j * bt v (q * w+w+j))):=by rw [Nat.pow_add,Nat.pow_add];ac_rfl
  rw [e,Nat.add_mul_div_left _ _ (Nat.two_pow_pos _),Nat.add_mul_mod_self_left]
theorem aEz (v i w:Nat) (hw:0<w):v % 2 ^ (i+1) / 2 ^ (i / w * w) % 2 ^ w=v % 2 ^ i / 2 ^ (i / w * w) % 2 ^ w+bt v i * 2 ^ (i % w)/\v % 2 ^ i / 2 ^ (i / w * w) % 2 ^ w<2 ^ (i % w):=by
 obtain⟨q,a⟩:∃ q,q=i / w * w:=⟨_,rfl⟩;obtain⟨k,hk⟩:∃ k,k=i % w:=⟨_,rfl⟩;have hi:i=q+k:=by rw [a,hk,Nat.mul_comm];exact (Nat.div_add_mod i w).symm
 have b:k<w:=by rw [hk];exact Nat.mod_lt _ hw
 rw [← a, ← hk,aIg,hi];have c:v % 2 ^ (q+k) / 2 ^ q<2 ^ k:=Nat.div_lt_of_lt_mul (by rw [← Nat.pow_add];exact Nat.mod_lt _ (Nat.two_pow_pos _));have d:2 ^ (k+1)<=2 ^ w:=Nat.pow_le_pow_right (by decide) b;rw [Nat.pow_succ] at d;have hb:=aPq v (q+k);have f:bt v (q+k) * 2 ^ k<=1 * 2 ^ k:=Nat.mul_le_mul_right _ (by omega);have e:bt v (q+k) * 2 ^ (q+k)=2 ^ q * (bt v (q+k) * 2 ^ k):=by rw [Nat.pow_add, ← Nat.mul_assoc, ← Nat.mul_assoc,Nat.mul_comm (bt v (q+k))]
 rw [e,Nat.add_mul_div_left _ _ (Nat.two_pow_pos q),Nat.mod_eq_of_lt (show v % 2 ^ (q+k) / 2 ^ q+bt v (q+k) * 2 ^ k<2 ^ w by omega),Nat.mod_eq_of_lt (show v % 2 ^ (q+k) / 2 ^ q<2 ^ w by omega)];exact⟨rfl,c⟩
def b0 (l:List Int):List Int:=(l.map λx=>uv (zz x)).flatten
def aA4:Int->List Int->Int
 | a,[]=>a
 | _,x::l=>aA4 x l
def bD:Int->List Int->List Int
 | _,[]=>[]
 | a,x::l=>uv (zz (IntKind.i64.wrap (x - a)))++bD x l
def bR:Nat->List Int->List Int
 | _,[]=>[]
 | k,[x]=>uv (zz x)++uv k
 | k,x::y::l=>if y=x then bR (k+1) (y::l) else uv (zz x)++uv k++bR 0 (y::l)
def mn:Int->List Int->Int
 | m,[]=>m
 | m,x::l=>mn (if x<m then x else m) l
def ds (lo:Int) (l:List Int):List Nat:=l.map λx=>(x - lo).toNat
def wdt (D:List Nat):Nat:=D.foldl (λw d=>if w<bl d then bl d else w) 0
def ofN (l:List Nat):List Int:=l.map λ(n:Nat)=>(n:Int)
def pk:List Int->List Int
 | []=>[]
 | x::l=>uv (zz (mn x l))++[(wdt (ds (mn x l) (x::l)):Int)]++ofN (by_ (((x::l).length * wdt (ds (mn x l) (x::l))+7) / 8) (V (wdt (ds (mn x l) (x::l))) (ds (mn x l) (x::l))))
def body:Nat->List Int->List Int
 | 0,l=>b0 l
 | 1,l=>bD 0 l
 | 2,l=>bR 0 l
 | _,l=>pk l
def asL (w:Nat) (l:List Int):List Int:=(w:Int)::(uv l.length++body w l)
def I64 (l:List Int):Prop:=∀ x∈l,i64 x
theorem I64.get {l:List Int} (h:I64 l) {i:Nat} {x:Int} (hx:l[i]?=some x):i64 x:=h x (List.mem_of_getElem? hx)
theorem aLj:∀ {l:List Int},I64 l->(b0 l).length<=10 * l.length
 | [],_=>by simp [b0]
 | x::l,h=>by have c:=aO (wU (h x List.mem_cons_self));have a:=aLj (l:=l) λy b=>h y (List.mem_cons_of_mem _ b);simp only [b0,List.map_cons,List.flatten_cons,List.length_append,List.length_cons] at a ⊢;omega
theorem aOy:∀ (l:List Int) (a:Int),(bD a l).length<=10 * l.length
 | [],_=>by simp [bD]
 | x::l,a=>by have b:=aO (wU (aB5 (x - a)));have c:=aOy l x;simp only [bD,List.length_append,List.length_cons];omega
theorem aOz:∀ (l:List Int) (k:Nat),I64 l->k+l.length<18446744073709551616->(bR k l).length<=20 * l.length
 | [],_,_,_=>by simp [bR]
 | [x],k,h,hk=>by have b:=aO (wU (h x List.mem_cons_self));have c:=aO (n:=k) (by simp at hk;omega);simp only [bR,List.length_append,List.length_cons,List.length_nil];omega
 | x::y::l,k,h,hk=>by
  have b:=aO (wU (h x List.mem_cons_self));simp only [List.length_cons] at hk;have c:=aO (n:=k) (by omega);have a:I64 (y::l):=λz hz=>h z (List.mem_cons_of_mem _ hz);unfold bR;split
  ·have:=aOz (y::l) (k+1) a (by simp only [List.length_cons];omega);simp only [List.length_cons] at this ⊢;omega
  ·have:=aOz (y::l) 0 a (by simp only [List.length_cons];omega);simp only [List.length_append,List.length_cons] at this ⊢;omega
theorem aVb (l:List Int) (x:Int):b0 (l++[x])=b0 l++uv (zz x):=by simp [b0]
theorem aPo:∀ (l:List Int) (a x:Int),bD a (l++[x])=bD a l++uv (zz (IntKind.i64.wrap (x - aA4 a l)))
 | [],a,x=>by simp [bD,aA4]
 | y::l,a,x=>by simp [bD,aA4,aPo l y x]
theorem aGf:∀ (l:List Int) (a x:Int),aA4 a (l++[x])=x
 | [],a,x=>rfl
 | y::l,a,x=>aGf l y x
theorem uD {l:List Int} {k:Nat} {x:Int} (h:l[k]?=some x):l.take (k+1)=l.take k++[x]:=by rw [List.take_add_one,h];rfl
theorem I64.take {l:List Int} (h:I64 l) (k:Nat):I64 (l.take k):=λx hx=>h x (List.mem_of_mem_take hx)
section
variable {l pre:List Int} (hl:l.length<=4096) (hi:I64 l) (hp:pre.length<=20)
include hl hi hp
theorem bD2:loop (λs:List Int×Int=>lD l s.1 s.2) (pre,0)=some (pre++b0 l):=by
 have:=iC (b:=λs:List Int×Int=>lD l s.1 s.2) (λk=>(pre++b0 (l.take k),(k:Int))) (t:=pre++b0 l) l.length (λk hk=>by
  have hx:=List.getElem?_eq_getElem hk;have hlen:=aLj (hi.take k);rw [List.length_take] at hlen;show lD l (pre++b0 (l.take k)) (k:Int)=_;unfold lD;rw [if_pos (by simp only [decide_eq_true_eq];omega),bG rfl hx];simp only [Option.bind_some];rw [zG (hi.get hx) _ (by simp only [List.length_append];omega)];simp only [Option.bind_some,lt_];rw [w64 (by omega) (by omega),uD hx,aVb,List.append_assoc];rfl) (by
  show lD l (pre++b0 (l.take l.length)) (l.length:Int)=_;unfold lD;rw [if_neg (by simp),List.take_length])
 simpa [b0] using this
omit hi in
theorem bD3:loop (λs:List Int×Int×Int=>lE l s.1 s.2.1 s.2.2) (pre,0,0)=some (pre++bD 0 l):=by
 have:=iC (b:=λs:List Int×Int×Int=>lE l s.1 s.2.1 s.2.2) (λk=>(pre++bD 0 (l.take k),aA4 0 (l.take k),(k:Int))) (t:=pre++bD 0 l) l.length (λk hk=>by
  have hx:=List.getElem?_eq_getElem hk;have hlen:=aOy (l.take k) 0;rw [List.length_take] at hlen;show lE l (pre++bD 0 (l.take k)) (aA4 0 (l.take k)) (k:Int)=_;unfold lE;rw [if_pos (by simp only [decide_eq_true_eq];omega),bG rfl hx];simp only [Option.bind_some,lt_];rw [zG (aB5 _) _ (by simp only [List.length_append];omega)];simp only [Option.bind_some];rw [w64 (n:=(k:Int)+1) (by omega) (by omega),uD hx,aPo,aGf,List.append_assoc];rfl) (by
  show lE l (pre++bD 0 (l.take l.length)) (aA4 0 (l.take l.length)) (l.length:Int)=_;unfold lE;rw [if_neg (by simp),List.take_length])
 simpa [bD,aA4] using this
end
theorem aFy (x:Int):∀ rest:List Int,∃ (m:Nat) (tl:List Int),rest=List.replicate m x++tl/\∀ y,tl[0]?=some y->y≠x
 | []=>⟨0,[],rfl,by simp⟩
 | y::rest=>by
  by_cases h:y=x
  ·obtain⟨m,tl,a,b⟩:=aFy x rest;exact⟨m+1,tl,by rw [h,a];rfl,b⟩
  ·exact⟨0,y::rest,rfl,λz hz=>by cases hz;exact h⟩
theorem aOd (x:Int) (tl:List Int) (h:∀ y,tl[0]?=some y->y≠x):∀ (m k:Nat),bR k (x::(List.replicate m x++tl))=uv (zz x)++uv (k+m)++bR 0 tl
 | 0,k=>by
  cases tl with
  | nil=>simp [bR]
  | cons y tl =>
   have:=h y rfl;simp only [List.replicate_zero,List.nil_append,bR,if_neg this,Nat.add_zero]
 | m+1,k=>by rw [List.replicate_succ,List.cons_append,bR,if_pos rfl,aOd x tl h m (k+1),show k+1+m=k+(m+1) by omega]
section
variable {l pre:List Int} (hl:l.length<=4096) (hi:I64 l) (hp:pre.length<=20)
include hl hi hp
theorem bD4:loop (λs:List Int×Int=>mU l s.1 s.2) (pre,0)=some (pre++bR 0 l):=by
 obtain⟨t,ht,rfl⟩:=aC6 (b:=λs:List Int×Int=>mU l s.1 s.2) (s:=(pre,0))
  (λs=>∃ i:Nat,s.2=i/\i<=l.length/\s.1.length<=20+20 * i/\s.1++bR 0 (l.drop i)=pre++bR 0 l)
  (λs=>((l.length:Int) - s.2).toNat) (λt=>t=pre++bR 0 l) ⟨0,rfl,by omega,by simpa using hp,by simp⟩ (by
   rintro⟨acc,q⟩ ⟨i,d,u,j,a⟩;simp only at d j a;subst d;show (∃ s',mU l acc (i:Int)=some (.inl s')/\_)\/∃ t,mU l acc (i:Int)=some (.inr t)/\_;unfold mU;by_cases e:i<l.length
   ·rw [if_pos (by simp only [decide_eq_true_eq];omega)];have hx:=List.getElem?_eq_getElem e;obtain⟨x,f⟩:∃ x,x=l[i]:=⟨_,rfl⟩;rw [← f] at hx;have hd:l.drop i=x::l.drop (i+1):=by rw [List.drop_eq_getElem_cons e, ← f]
    obtain⟨m,tl,hm,g⟩:=aFy x (l.drop (i+1));have hlen:l.length=i+1+m+tl.length:=by have:=congrArg List.length hm;simp only [List.length_drop,List.length_append,List.length_replicate] at this;omega
    have o:∀ k,k<m->l[i+1+k]?=some x:=by
     intro k hk;have:(l.drop (i+1))[k]?=some x:=by rw [hm,List.getElem?_append_left (by simpa using hk)];simp [hk]
     rwa [List.getElem?_drop] at this
    have h:l.drop (i+1+m)=tl:=by rw [← List.drop_drop,hm];exact List.drop_left' (by simp)
    
    have p:=iC (b:=λs:Int=>mV l (i:Int) s) (λk=>((k+1:Nat):Int)) (t:=((m+1:Nat):Int)) m (λk hk=>by
     show mV l (i:Int) ((k+1:Nat):Int)=_;unfold mV;rw [lt_,w64 (by omega) (by omega),if_pos (by simp only [decide_eq_true_eq];omega),bG (n:=i+1+k) (by omega) (o k hk),bG rfl hx];simp only [Option.bind_some];unfold pE;rw [if_pos (by simp),lt_,w64 (by omega) (by omega)];rfl) (by
     show mV l (i:Int) ((m+1:Nat):Int)=_;unfold mV;rw [lt_,w64 (by omega) (by omega)];by_cases v:tl.length=0
     ·rw [if_neg (by simp only [decide_eq_true_eq];omega)];unfold pE;rw [if_neg (by simp)]
     ·obtain⟨y,c⟩:∃ y,tl[0]?=some y:=⟨_,List.getElem?_eq_getElem (by omega)⟩;have r:l[i+1+m]?=some y:=by rw [← h,List.getElem?_drop] at c;exact c
      rw [if_pos (by simp only [decide_eq_true_eq];omega),bG (n:=i+1+m) (by omega) r,bG rfl hx];simp only [Option.bind_some];unfold pE;rw [if_neg (by simpa using g y c)])
    rw [show (1:Int)=((0+1:Nat):Int) from rfl,p];simp only [Option.bind_some];unfold uM xK;have hz:=aO (wU (hi.get hx));have w:=aO (n:=m) (by omega);rw [bG rfl hx];simp only [Option.bind_some];rw [zG (hi.get hx) _ (by omega)];simp only [Option.bind_some,lt_];rw [w64 (n:=((m+1:Nat):Int) - 1) (by omega) (by omega),show ((m+1:Nat):Int) - 1=(m:Int) by omega,nN (by omega) (by omega),sV m _ (by omega) (by simp only [List.length_append];omega)];simp only [Option.bind_some];rw [w64 (by omega) (by omega)];refine .inl ⟨_,rfl,⟨i+1+m,?_,by omega,?_,?_⟩,?_⟩
    ·simp only;omega
    ·simp only [List.length_append];omega
    ·rw [h, ← a,hd,hm,aOd x tl g m 0];simp
    ·simp only;omega
   ·rw [if_neg (by simp only [decide_eq_true_eq];omega)];refine .inr ⟨_,rfl,?_⟩;rw [← a,show i=l.length by omega,List.drop_length];simp [bR])
 exact ht
end
theorem aF8 {k m:Nat} (a:2 ^ k<=m) (b:m<2 ^ (k+1)):bl m=k+1:=by
 have e:m / 2 ^ k=1:=by rw [Nat.pow_succ] at b;have:=(Nat.le_div_iff_mul_le (Nat.two_pow_pos k)).2 (show 1 * 2 ^ k<=m by omega);have:=(Nat.div_lt_iff_lt_mul (Nat.two_pow_pos k)).2 (show m<2 * 2 ^ k by omega);omega
 rw [aB2 k m a,e,aK1 (by decide),show 1 / 2=0 from rfl,aEk]
def aKl (m:Nat):Nat:=if m<1 then 0 else if m<2 then 1 else if m<4 then 2 else if m<8 then 3 else if m<16 then 4 else if m<32 then 5 else if m<64 then 6 else if m<128 then 7 else 8
theorem aSl {m:Nat} (h:m<256):bl m=aKl m:=by
 unfold aKl
 repeat' split
 ·rw [show m=0 by omega,aEk]
 ·exact aF8 (k:=0) (by omega) (by omega)
 ·exact aF8 (k:=1) (by omega) (by omega)
 ·exact aF8 (k:=2) (by omega) (by omega)
 ·exact aF8 (k:=3) (by omega) (by omega)
 ·exact aF8 (k:=4) (by omega) (by omega)
 ·exact aF8 (k:=5) (by omega) (by omega)
 ·exact aF8 (k:=6) (by omega) (by omega)
 ·exact aF8 (k:=7) (by omega) (by omega)
set_option maxRecDepth 100000 in
theorem aXz {m:Nat} (h:m<256) (a:Int) (f:0<=a) (g:a<=64):qF (m:Int) a=some (a+(bl m:Int)):=by
 unfold qF;rw [lt_,u8w (by omega) (by omega),aOc];have key:∀ tb:List UInt8,(∀ i:Fin 256,(tb[i.val]?).map (λb:UInt8=>b.toNat)=some (aKl i.val))->((tb[m]?).bind λc=>(ltt (IntKind.i64.wrap (c.toNat:Int)) λd=>(ltt (IntKind.i64.wrap (a+d)) λe=>(some e))))=some (a+(bl m:Int)):=by
  intro tb ht;have:=ht ⟨m,h⟩;simp only [Option.map_eq_some_iff] at this;obtain⟨b,hb,hs⟩:=this;rw [hb];have:aKl m<=8:=by unfold aKl;(repeat' split) <;> omega
  simp only [Option.bind_some,lt_];rw [hs,w64 (n:=((aKl m:Nat):Int)) (by omega) (by omega),w64 (by omega) (by omega),aSl h]
 exact key _ (by decide +kernel)
theorem sh {n k:Nat} (hk:k<=64):nX .u64 (n:Int) (k:Int)=((n / 2 ^ k:Nat):Int):=kZ (k:=.u64) n k hk
theorem aYr {n:Nat} (h:n<18446744073709551616):yI (n:Int)=some (bl n:Int):=by
 have b:∀ (m a:Nat),m<65536->a<=56->qE (m:Int) (a:Int)=some ((a:Int)+(bl m:Int)):=by
  intro m a hm d;unfold qE;by_cases hc:256<=m
  ·rw [if_pos (by simp only [decide_eq_true_eq];omega),lt_,lt_];have e:=sh (n:=m) (k:=8) (by omega);rw [show ((8:Nat):Int)=8 from rfl] at e;rw [e,w64 (by omega) (by omega),aXz (by omega) _ (by omega) (by omega),aB2 8 m (by omega)];congr 1;omega
  ·rw [if_neg (by simp only [decide_eq_true_eq];omega),aXz (by omega) _ (by omega) (by omega)]
 have c:∀ (m a:Nat),m<4294967296->a<=32->qD (m:Int) (a:Int)=some ((a:Int)+(bl m:Int)):=by
  intro m a hm d;unfold qD;by_cases hc:65536<=m
  ·rw [if_pos (by simp only [decide_eq_true_eq];omega),lt_,lt_];have e:=sh (n:=m) (k:=16) (by omega);rw [show ((16:Nat):Int)=16 from rfl] at e;rw [e,w64 (by omega) (by omega),show (a:Int)+16=((a+16:Nat):Int) by omega,b _ _ (by omega) (by omega),aB2 16 m (by omega)];congr 1;omega
  ·rw [if_neg (by simp only [decide_eq_true_eq];omega),b _ _ (by omega) (by omega)]
 unfold yI;by_cases hc:4294967296<=n
 ·rw [if_pos (by simp only [decide_eq_true_eq];omega),lt_];have e:=sh (n:=n) (k:=32) (by omega);rw [show ((32:Nat):Int)=32 from rfl] at e;rw [e,show (32:Int)=((32:Nat):Int) from rfl,c _ _ (by omega) (by omega),aB2 32 n (by omega)];congr 1
 ·rw [if_neg (by simp only [decide_eq_true_eq];omega),show (0:Int)=((0:Nat):Int) from rfl,c _ _ (by omega) (by omega)];simp
theorem aQa:∀ (l:List Int) (m x:Int),mn m (l++[x])=if x<mn m l then x else mn m l
 | [],m,x=>rfl
 | y::l,m,x=>aQa l _ x
theorem aTn:∀ (l:List Int) (m:Int),mn m l<=m/\∀ x∈l,mn m l<=x
 | [],m=>⟨Int.le_refl _,λx h=>by cases h⟩
 | y::l,m=>by
  obtain⟨a,c⟩:=aTn l (if y<m then y else m);have b:(if y<m then y else m)<=m/\(if y<m then y else m)<=y:=by split <;> omega
  refine⟨Int.le_trans a b.1,λx hx=>?_⟩;rcases List.mem_cons.1 hx with rfl | hx
  ·exact Int.le_trans a b.2
  ·exact c x hx
theorem aTo:∀ (l:List Int) (m:Int),mn m l=m\/mn m l∈l
 | [],m=>.inl rfl
 | y::l,m=>by
  rcases aTo l (if y<m then y else m) with h | h
  ·simp only [mn];rw [h];split
   ·exact .inr List.mem_cons_self
   ·exact .inl rfl
  ·exact .inr (List.mem_cons_of_mem _ h)
theorem aLn {x:Int} {l:List Int} (h:I64 (x::l)):i64 (mn x l):=by
 rcases aTo l x with e | e
 ·rw [e];exact h x List.mem_cons_self
 ·exact h _ (List.mem_cons_of_mem _ e)
theorem aY0 {x lo:Int} (hx:i64 x) (hlo:i64 lo) (h:lo<=x):IntKind.u64.wrap (IntKind.i64.wrap (x - lo))=(((x - lo).toNat:Nat):Int)/\(x - lo).toNat<18446744073709551616:=by unfold i64 at hx hlo;refine⟨?_,by omega⟩;rw [IntKind.wrap_u64,IntWalk.i64_left];unfold wrap64;omega
theorem aI5 (D:List Nat) (d:Nat):wdt (D++[d])=if wdt D<bl d then bl d else wdt D:=by unfold wdt;rw [List.foldl_append];rfl
theorem aUt:∀ (k:Nat) (D:List Nat),D.length=k->∀ d∈D,bl d<=wdt D
 | 0,D,hk,d,hd=>by rw [List.eq_nil_of_length_eq_zero hk] at hd;cases hd
 | k+1,D,hk,d,hd=>by
  obtain⟨c,x,rfl⟩:∃ c x,D=c++[x]:=⟨D.dropLast,D.getLast (by intro e;rw [e] at hk;cases hk),(List.dropLast_concat_getLast _).symm⟩;rw [aI5];rcases List.mem_append.1 hd with h | h
  ·have:=aUt k c (by simpa using hk) d h;split <;> omega
  ·rw [List.mem_singleton.1 h];split <;> omega
theorem aUu (b:Nat):∀ (k:Nat) (D:List Nat),D.length=k->(∀ d∈D,bl d<=b)->wdt D<=b
 | 0,D,hk,_=>by rw [List.eq_nil_of_length_eq_zero hk];simp [wdt]
 | k+1,D,hk,h=>by obtain⟨c,x,rfl⟩:∃ c x,D=c++[x]:=⟨D.dropLast,D.getLast (by intro e;rw [e] at hk;cases hk),(List.dropLast_concat_getLast _).symm⟩;rw [aI5];have a:=aUu b k c (by simpa using hk) λd hd=>h d (List.mem_append.2 (.inl hd));have f:=h x (List.mem_append.2 (.inr (List.mem_singleton.2 rfl)));split <;> omega
theorem aR8 (D:List Nat):Lt (wdt D) D:=λd hd=>Nat.lt_of_lt_of_le (bAi d) (Nat.pow_le_pow_right (by decide) (aUt _ D rfl d hd))
theorem aOl {lo x:Int} {l:List Int} {i:Nat} (h:l[i]?=some x):(ds lo l)[i]?=some (x - lo).toNat:=by simp [ds,h]
theorem vR (lo:Int) (l:List Int):(ds lo l).length=l.length:=by simp [ds]
theorem aVe {m v a:Nat} (h:a / 8<m):(ofN (by_ m (v % 2 ^ a))).set (a / 8) ((v % 2 ^ a / 2 ^ (8 * (a / 8)) % 256+bt v a * 2 ^ (a % 8):Nat):Int)=ofN (by_ m (v % 2 ^ (a+1))):=by
 unfold ofN;rw [← List.map_set];congr 1;refine aSn (by simp [tU]) λj b=>?_;rw [List.length_set,tU] at b;rw [aHj b];by_cases e:a / 8=j
 ·subst e;have:=(aEz v a 8 (by decide)).1;rw [Nat.mul_comm (a / 8) 8,show 2 ^ 8=256 from rfl] at this;rw [List.getElem?_set_self (by rw [tU];exact b),this]
 ·have:=aJ3 v a j 8 (by decide) (Ne.symm e);rw [Nat.mul_comm j 8,show 2 ^ 8=256 from rfl] at this;rw [List.getElem?_set_ne e,aHj b,this]
theorem aV8 {D:List Nat} {j d:Nat} (h:D[j]?=some d):(ofN D)[j]?=some (d:Int):=by simp [ofN,h]
theorem aD6 (D:List Nat):(ofN D).length=D.length:=by simp [ofN]
section
variable {l:List Int} {lo:Int} {w:Nat} (hl:l.length<=4096) (hi:I64 l) (hlo:i64 lo) (hle:∀ x∈l,lo<=x) (hw:w<=64) (hL:Lt w (ds lo l))
include hl hi hlo hle hw hL
omit hl in
theorem aYx {i:Nat} {x:Int} (hx:l[i]?=some x) {k:Nat} (hk:k<w) :
  nX .u64 (IntKind.u64.wrap (IntKind.i64.wrap (x - lo))) (k:Int)=(((x - lo).toNat / 2 ^ k:Nat):Int)/\bt (V w (ds lo l)) (i * w+k)=(x - lo).toNat / 2 ^ k % 2/\(x - lo).toNat / 2 ^ k<18446744073709551616:=by
 obtain⟨e,e'⟩:=aY0 (hi.get hx) hlo (hle x (List.mem_of_getElem? hx));rw [e];exact⟨sh (by omega),bAj hL (aOl hx) hk,Nat.lt_of_le_of_lt (Nat.div_le_self _ _) e'⟩
omit hi hlo hle hL in
theorem bAh {i k:Nat} (a:i<l.length) (hk:k<w):i * w+k<l.length * w/\l.length * w<=262144/\(i * w+k) / 8<(l.length * w+7) / 8:=by have b:(i+1) * w<=l.length * w:=Nat.mul_le_mul_right _ a;have c:l.length * w<=4096 * 64:=Nat.mul_le_mul hl hw;rw [Nat.add_mul] at b;refine⟨by omega,by omega,by omega⟩
theorem aSs {i:Nat} {x:Int} (hx:l[i]?=some x) :
  loop (λs:Int×List Int×Int=>iN lo (w:Int) x s.1 s.2.1 s.2.2) (((i * w:Nat):Int),ofN (by_ ((l.length * w+7) / 8) (V w (ds lo l) % 2 ^ (i * w))),0)
   = some ((((i+1) * w:Nat):Int),ofN (by_ ((l.length * w+7) / 8) (V w (ds lo l) % 2 ^ ((i+1) * w)))):=by
 have g:=(List.getElem?_eq_some_iff.1 hx).1;have:=iC (b:=λs:Int×List Int×Int=>iN lo (w:Int) x s.1 s.2.1 s.2.2) (λk=>(((i * w+k:Nat):Int),ofN (by_ ((l.length * w+7) / 8) (V w (ds lo l) % 2 ^ (i * w+k))),(k:Int))) (t:=((((i+1) * w:Nat):Int),ofN (by_ ((l.length * w+7) / 8) (V w (ds lo l) % 2 ^ ((i+1) * w))))) w (λk hk=>by
  obtain⟨h,q,c⟩:=bAh hl hw g hk;obtain⟨j,d,m⟩:=aYx hi hlo hle hw hL hx hk;show iN lo (w:Int) x ((i * w+k:Nat):Int) (ofN (by_ ((l.length * w+7) / 8) (V w (ds lo l) % 2 ^ (i * w+k)))) (k:Int)=_;have e:=aVe (v:=V w (ds lo l)) c;have f:V w (ds lo l) % 2 ^ (i * w+k) / 2 ^ (8 * ((i * w+k) / 8)) % 256<2 ^ ((i * w+k) % 8):=by
   have:=(aEz (V w (ds lo l)) (i * w+k) 8 (by decide)).2
   rwa [Nat.mul_comm ((i * w+k) / 8) 8] at this
  rw [show i * w+(k+1)=i * w+k+1 by omega];generalize i * w+k=a at h c d e f ⊢;have o:=aV8 (aHj (v:=V w (ds lo l) % 2 ^ a) c);unfold iN;rw [if_pos (by simp only [decide_eq_true_eq];omega),lt_,show ((a:Nat):Int).tdiv 8=((a / 8:Nat):Int) from rfl,w64 (n:=((a / 8:Nat):Int)) (by omega) (by omega),bG rfl o];simp only [Option.bind_some,lt_];rw [bN (by omega),j,show ((a:Nat):Int).tmod 8=((a % 8:Nat):Int) from rfl,bN (by omega)];have p:aA3 .u64 (((x - lo).toNat / 2 ^ k:Nat):Int) 1=((bt (V w (ds lo l)) a:Nat):Int):=by have:=aH6 (a:=(x - lo).toNat / 2 ^ k) (b:=1) m (by omega);rw [show ((1:Nat):Int)=1 from rfl] at this;rw [this,aSf,d]
  have hb:=aPq (V w (ds lo l)) a;have r:2 ^ (a % 8)<=2 ^ 7:=Nat.pow_le_pow_right (by decide) (by omega);have u:bt (V w (ds lo l)) a * 2 ^ (a % 8)<=1 * 2 ^ (a % 8):=Nat.mul_le_mul_right _ (by omega);have hm:bt (V w (ds lo l)) a * 2 ^ (a % 8) % 256=bt (V w (ds lo l)) a * 2 ^ (a % 8):=Nat.mod_eq_of_lt (by omega);rw [p,u8w (by omega) (by omega),aV4 _ _ (by omega),hm,aTf (by omega) (by omega),aA7 f,w64 (by omega) (by omega),w64 (by omega) (by omega),Int.toNat_natCast,e];rfl) (by
  show iN lo (w:Int) x ((i * w+w:Nat):Int) (ofN (by_ ((l.length * w+7) / 8) (V w (ds lo l) % 2 ^ (i * w+w)))) (w:Int)=_;unfold iN;rw [if_neg (by simp),show i * w+w=(i+1) * w by rw [Nat.add_mul,Nat.one_mul]])
 simpa using this
theorem aVi:loop (λs:Int×List Int×Int=>iM l lo (w:Int) s.1 s.2.1 s.2.2) (0,List.replicate ((l.length * w+7) / 8) 0,0)=some (ofN (by_ ((l.length * w+7) / 8) (V w (ds lo l)))):=by
 have:=iC (b:=λs:Int×List Int×Int=>iM l lo (w:Int) s.1 s.2.1 s.2.2) (λi=>(((i * w:Nat):Int),ofN (by_ ((l.length * w+7) / 8) (V w (ds lo l) % 2 ^ (i * w))),(i:Int))) (t:=ofN (by_ ((l.length * w+7) / 8) (V w (ds lo l)))) l.length (λi c=>by
  have hx:=List.getElem?_eq_getElem c;show iM l lo (w:Int) ((i * w:Nat):Int) (ofN (by_ ((l.length * w+7) / 8) (V w (ds lo l) % 2 ^ (i * w)))) (i:Int)=_;unfold iM;rw [if_pos (by simp only [decide_eq_true_eq];omega),bG rfl hx];simp only [Option.bind_some];rw [aSs hl hi hlo hle hw hL hx];simp only [Option.bind_some];unfold rR uS;rw [lt_,w64 (by omega) (by omega)];rfl) (by
  show iM l lo (w:Int) ((l.length * w:Nat):Int) (ofN (by_ ((l.length * w+7) / 8) (V w (ds lo l) % 2 ^ (l.length * w)))) (l.length:Int)=_;unfold iM;have a:=aU9 hL;rw [vR] at a;rw [if_neg (by simp),Nat.mod_eq_of_lt a])
 have e0:ofN (by_ ((l.length * w+7) / 8) (V w (ds lo l) % 2 ^ (0 * w)))=List.replicate ((l.length * w+7) / 8) 0:=by rw [Nat.zero_mul,Nat.pow_zero,Nat.mod_one];unfold ofN by_;rw [List.map_map,List.eq_replicate_iff];refine⟨by simp,λb hb=>?_⟩;obtain⟨j,_,rfl⟩:=List.mem_map.1 hb;simp
 rw [e0] at this;simpa using this
end
section
variable {l:List Int} {lo:Int} {w:Nat} (hl:l.length<=4096) (hi:I64 l) (hlo:i64 lo) (hle:∀ x∈l,lo<=x) (hw:w<=64) (hL:Lt w (ds lo l)) {pre:List Int} (hp:pre.length<=100)
include hl hi hlo hle hw hL hp
end
theorem aVj {x:Int} {l:List Int} (hl:(x::l).length<=4096):iS (x::l)=some (mn x l):=by
 simp only [List.length_cons] at hl;unfold iS;rw [if_neg (by simp only [decide_eq_true_eq,List.length_cons];omega),show at_ (x::l) 0=some x from rfl];simp only [Option.bind_some];have:=iC (b:=λs:Int×Int=>cZ (x::l) s.1 s.2) (λk=>(mn x (l.take k),((k+1:Nat):Int))) (t:=mn x l) l.length (λk hk=>by
  have hx:=List.getElem?_eq_getElem hk;show cZ (x::l) (mn x (l.take k)) ((k+1:Nat):Int)=_;unfold cZ;rw [if_pos (by simp only [decide_eq_true_eq,List.length_cons];omega),bG rfl (by rw [List.getElem?_cons_succ];exact hx)];simp only [Option.bind_some,lt_];rw [w64 (by omega) (by omega),uD hx,aQa];rfl) (by
  show cZ (x::l) (mn x (l.take l.length)) ((l.length+1:Nat):Int)=_;unfold cZ;rw [if_neg (by simp),List.take_length])
 rw [show ((x,1):Int×Int)=(λk=>(mn x (l.take k),((k+1:Nat):Int))) 0 from rfl,this];rfl
section
variable {l:List Int} {lo:Int} (hl:l.length<=4096) (hi:I64 l) (hlo:i64 lo) (hle:∀ x∈l,lo<=x)
include hl hi hlo hle
omit hl in
theorem bAn:∀ d∈ds lo l,bl d<=64:=by intro d hd;obtain⟨x,hx,rfl⟩:=List.mem_map.1 hd;exact aXj 64 _ (aY0 (hi x hx) hlo (hle x hx)).2
omit hl in
theorem aL6 (k:Nat):wdt ((ds lo l).take k)<=64:=aUu 64 _ _ rfl λd hd=>bAn hi hlo hle d (List.mem_of_mem_take hd)
theorem aVk:loop (λs:Int×Int=>iO l lo s.1 s.2) (0,0)=some (wdt (ds lo l):Int):=by
 have:=iC (b:=λs:Int×Int=>iO l lo s.1 s.2) (λk=>((wdt ((ds lo l).take k):Int),(k:Int))) (t:=(wdt (ds lo l):Int)) l.length (λk hk=>by
  have hx:=List.getElem?_eq_getElem hk;obtain⟨e,e'⟩:=aY0 (hi.get hx) hlo (hle _ (List.mem_of_getElem? hx));show iO l lo (wdt ((ds lo l).take k):Int) (k:Int)=_;unfold iO;rw [if_pos (by simp only [decide_eq_true_eq];omega),bG rfl hx];simp only [Option.bind_some,lt_];rw [e,aYr e'];simp only [Option.bind_some];rw [w64 (by omega) (by omega),List.take_add_one (i:=k),aOl hx];show some (Sum.inl _)=some (Sum.inl (((wdt ((ds lo l).take k++[(l[k] - lo).toNat]):Nat):Int),((k+1:Nat):Int)));rw [aI5];congr 3;split <;> split <;> omega) (by
  show iO l lo (wdt ((ds lo l).take l.length):Int) (l.length:Int)=_;unfold iO;rw [if_neg (by simp),List.take_of_length_le (by rw [vR];exact Nat.le_refl _)])
 simpa [wdt] using this
end
theorem aLm {x:Int} {l:List Int}:∀ y∈x::l,mn x l<=y:=λy a=>by
 rcases List.mem_cons.1 a with rfl | h
 ·exact (aTn l y).1
 ·exact (aTn l x).2 y h
theorem bD5 {l pre:List Int} (hl:l.length<=4096) (hi:I64 l) (hp:pre.length<=20):tW pre l=some (pre++pk l):=by
 cases l with
 | nil=>simp [tW,pk]
 | cons x l =>
  have hlo:=aLn hi;have hle:=aLm (x:=x) (l:=l);unfold tW;rw [if_neg (by simp;omega),aVj hl];simp only [Option.bind_some];rw [aVk hl hi hlo hle];simp only [Option.bind_some];have hw:wdt (ds (mn x l) (x::l))<=64:=by
   have:=aL6 hi hlo hle (x::l).length
   rwa [List.take_of_length_le (by rw [vR];exact Nat.le_refl _)] at this
  have hL:=aR8 (ds (mn x l) (x::l));have hz:=aO (wU hlo);simp only [pk];generalize wdt (ds (mn x l) (x::l))=w at hw hL ⊢;have a:(x::l).length * w<=4096 * 64:=Nat.mul_le_mul hl hw;unfold rS uQ;rw [zG hlo _ (by omega)];simp only [Option.bind_some,lt_];rw [u8w (n:=(w:Int)) (by omega) (by omega),bN (by simp only [List.length_append,List.length_singleton];omega), ← Int.natCast_mul,w64 (n:=(((x::l).length * w:Nat):Int)) (by omega) (by omega),w64 (n:=(((x::l).length * w:Nat):Int)+7) (by omega) (by omega),
   show ((((x::l).length * w:Nat):Int)+7).tdiv 8=((((x::l).length * w+7) / 8:Nat):Int) from rfl,w64 (by omega) (by omega),bN (by omega),Int.toNat_natCast,aVi hl hi hlo hle hw hL]
  simp only [Option.bind_some];unfold rQ uR;rw [bN (by simp only [List.length_append,List.length_singleton,aD6,tU];omega)];simp
theorem aYo {w:Nat} {l:List Int} (hw:w<4) (hl:l.length<=4096) (hi:I64 l):vL (w:Int) l=some (asL w l):=by
 have hu:=aO (n:=l.length) (by omega);unfold vL;rw [lt_,nN (by omega) (by omega),sV _ _ (by omega) (by simp;omega)];simp only [Option.bind_some];have hp:([(w:Int)]++uv l.length).length<=20:=by simp;omega
 unfold asL
 match w,hw with
 | 0,_ =>
  rw [if_pos (by rfl),bD2 hl hi hp];simp [uJ,xH,iK,body]
 | 1,_ =>
  rw [if_neg (by decide),if_pos (by rfl),bD3 hl hp];simp [uK,xI,iK,body]
 | 2,_ =>
  rw [if_neg (by decide),if_neg (by decide),if_pos (by rfl),bD4 hl hi hp];simp [uL,xJ,iK,body]
 | 3,_ =>
  rw [if_neg (by decide),if_neg (by decide),if_neg (by decide),if_pos (by rfl),bD5 hl hi hp];simp [iK,body]
def iR (a b:List Int):List Int:=if b.length<a.length then b else a
def fY (l:List Int):List Int:=iR (iR (iR (asL 0 l) (asL 1 l)) (asL 2 l)) (asL 3 l)
theorem aB1 {l:List Int} (hl:l.length<=4096) (hi:I64 l):mW l=some (fY l):=by
 have hA:∀ w:Nat,w<4->vL (w:Int) l=some (asL w l):=λw hw=>aYo hw hl hi;unfold fY;unfold mW;obtain⟨p,hp⟩:∃ p:Nat->List Int,∀ w,p w=asL w l:=⟨_,λ_=>rfl⟩;have step:∀ (b:List Int) (w:Nat),1<=w->w<4->fV l b (w:Int)=some (.inl (iR b (p w),((w+1:Nat):Int))):=by
  intro b w c a;unfold fV rA iR;rw [if_pos (by simp only [decide_eq_true_eq];omega),hA w a,hp];simp only [Option.bind_some,lt_];rw [u8w (by omega) (by omega)];by_cases h:(asL w l).length<b.length
  ·rw [if_pos (by simp only [decide_eq_true_eq];omega),if_pos h];rfl
  ·rw [if_neg (by simp only [decide_eq_true_eq];omega),if_neg h];rfl
 have h0:=hA 0 (by decide);rw [show ((0:Nat):Int)=0 from rfl] at h0;rw [h0, ← hp 0, ← hp 1, ← hp 2, ← hp 3];clear hA h0 hp;simp only [Option.bind_some];have a:∀ b,fV l b ((4:Nat):Int)=some (.inr b):=by intro b;unfold fV;rw [if_neg (by decide)]
 have:=((cH (b:=λs:List Int×Int=>fV l s.1 s.2) (s:=(p 0,((1:Nat):Int))) (step (p 0) 1 (by decide) (by decide))).trans
  ((cH (b:=λs:List Int×Int=>fV l s.1 s.2) (s:=(iR (p 0) (p 1),((2:Nat):Int))) (step _ 2 (by decide) (by decide))).trans
  ((cH (b:=λs:List Int×Int=>fV l s.1 s.2) (s:=(iR (iR (p 0) (p 1)) (p 2),((3:Nat):Int))) (step _ 3 (by decide) (by decide))).trans (bC (b:=λs:List Int×Int=>fV l s.1 s.2) (s:=(iR (iR (iR (p 0) (p 1)) (p 2)) (p 3),((4:Nat):Int))) (a _)))))
 rw [show (1:Int)=((1:Nat):Int) from rfl,this];rfl
end Go.Proofs.YtdkpjpoajlmmfaaGreatDoor.P
