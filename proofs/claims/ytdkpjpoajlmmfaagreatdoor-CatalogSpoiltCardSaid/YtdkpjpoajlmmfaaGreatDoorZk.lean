/- Texts of the claim, joined: what it uses of Dc0, Mc0, DlCatalogSpoilt, MlCatalogSpoilt, LCatalogSpoilt, DlCatalogScans, DlCatalogTwins, DlCatalogPlays, DlCatalogFalls, Qa, Qb, Qc, Qd, Qe, Qf, Qg, Qh, Qi, Qj. -/
import Derived.Test.YtdkpjpoajlmmfaaGreatDoorZj
import Derived.Test.YtdkpjpoajlmmfaaGreatDoorCards
import Derived.Test.YtdkpjpoajlmmfaaGreatDoorTie
import Derived.SevenTiedAt
import Derived.LaidMore
import Derived.OpenShut
import Derived.Stop.Joined
import Derived.ProofKit
import Derived.IntWalk
namespace Go.Proofs.YtdkpjpoajlmmfaaGreatDoor.M
open Go Go.RowKit Go.Proofs.YtdkpjpoajlmmfaaGreatDoor.E
set_option linter.unusedVariables false
noncomputable section
set_option linter.unusedSimpArgs false
def aAv (a:(List S61)):Option ((List S61)) :=
  some a
def yO (a:(List S61)):Option ((List S61)) :=
  aAv a
def rM (a:Int) (b:(List S61)):Option (((List S61)×Int)⊕(((List S61)))) :=
  ltt (IntKind.i64.wrap (a+1)) λc=>(some (.inl (b,c)))
def rV (a0:(List S61)) (g:Int) (b:(List S61)) (c:Int) (e:Bool):Option (((List S61)×Int)⊕(((List S61)))) :=
  if e=true then ((at_ a0 c).bind λa=>(ltt (IntKind.u64.wrap (b.length:Int)) λd=>((aE6 (⟨d,a.f1,a.f2,a.f3,a.f4⟩:S61) g).bind λf=>(if f=true then (chk (b.length+[(⟨d,a.f1,a.f2,a.f3,a.f4⟩:S61)].length<=140737488355328 / 48) (rM c (b++[(⟨d,a.f1,a.f2,a.f3,a.f4⟩:S61)]))) else (rM c b))))) else (some (.inr (b)))
def nJ (a0:(List S61)) (c:Int) (b:(List S61)) (a:Int):Option (((List S61)×Int)⊕(((List S61)))) :=
  if (decide (a<(a0.length:Int)))=true then (rV a0 c b a (decide (a<250))) else (rV a0 c b a false)
def aAr (a0:(List S61)) (a:Int):Option ((List S61)) :=
  (loop (λs=>nJ a0 a s.1 s.2) ([],0)).bind λt=>yO t
def aCg:Option (S26) :=
  some (⟨0,1099511627776,-1099511627776,1099511627776⟩:S26)
def oL (g:(List S98)) (h:Int) (i:Int) (j:Bool) (k:Int) (b:Int) (c:(List S46)) (d:Bool):Option (Bool) :=
  if d=true then (some false) else ((eK (⟨(),b,c⟩:S79)).bind λa=>(if ((a.1.length:Int)==1)=true then ((at_ a.1 0).bind λe=>(if (e.f0==[115,101,103,46,48,46,50,48])=true then ((fR a.2).bind λf=>(some (f.1==20))) else (some false))) else (some false)))
def uJ (e:((Option S79)×Int×S77)) (f:S79) (d:(List S61)):Option (Bool) :=
  (kO d 0 10).bind λg=>((dK f g e.2.2).bind λa=>(if (a.1 != 0)=true then (oL a.2.2.f0 a.2.2.f1 a.2.2.f2 a.2.2.f3 a.2.2.f4 a.2.1.f1 a.2.1.f2 true) else ((kO d 10 (d.length:Int)).bind λh=>((dK a.2.1 h a.2.2).bind λb=>(if (b.1 != 0)=true then (oL b.2.2.f0 b.2.2.f1 b.2.2.f2 b.2.2.f3 b.2.2.f4 b.2.1.f1 b.2.1.f2 true) else ((eM b.2.1 0 b.2.2).bind λc=>(oL c.2.2.f0 c.2.2.f1 c.2.2.f2 c.2.2.f3 c.2.2.f4 c.2.1.f1 c.2.1.f2 (c.1 != 0))))))))
def rS (a:((Option S79)×Int×S77)) (b:S79) (c:(List S61)):Option (Bool) :=
  uJ a b c
def iT (b:(List S61)) (a:Int):Option (((List S61)×Int)⊕(((List S61)))) :=
  if (decide (a<20))=true then (ltt (IntKind.u64.wrap a) λc=>(chk (b.length+[(⟨c,0,a,[],0⟩:S61)].length<=140737488355328 / 48) (ltt (IntKind.i64.wrap (a+1)) λd=>(some (.inl (b++[(⟨c,0,a,[],0⟩:S61)],d)))))) else (some (.inr (b)))
def wG:Option (Bool) :=
  (xW 65536).bind λb=>((b.1).bind λc=>((hW c 1).bind λa=>((a.1).bind λd=>(if (a.2.1 != 0)=true then (some false) else ((loop (λs=>iT s.1 s.2) ([],0)).bind λt=>rS a d t)))))
end
set_option maxRecDepth 100000
set_option maxHeartbeats 4000000
set_option linter.unusedSimpArgs false
section
variable {r:World} {L:List HP} {w:World} {Z:Nat->Prop} {wz:World}
theorem aM3 {a0 a1 A0 n0 c0 y} (G:aAr a0 a1=some y) (X:SH r (L) w) (H:RdL L k61 A0 n0 c0 a0) :
  Ret Tryz.prog 9 #[.slice A0 n0 c0,.int .i64 a1] w λv w'=>∃ (N:Option Addr) (O:Nat) (P:Nat),v=.slice N O P/\SH r (own k61 61 N O P y::L) w':=by
 refine enter Tryz.func9 rfl Tryz.ntmps9 [(0,_),(1,_)] rfl (by simp) ?_;intro U J Qf hQ e0;unfold aAr at G;refine nz 1 J rfl λU J=>nz 1 J rfl λU J=>wp_seq_k λc9 T=>nz 1 J rfl λU J=>aA λI W=>?_;have c6:∀B,aAv B=some y->∀m n o U w,FR 34 [] U [(5,.slice m n o)]->SH r (own k61 61 m n o B::L) w->I U w:=by intro B G m n o U w J X;unfold aAv at G;refine W _ _ (T _ _ ?_);refine nz 2 J rfl λU J=>?_;cases G;refine wp_ret (hQ _ _ ?_);exact lv Tryz.results9 J rfl ⟨m,n,o,rfl,X⟩
 obtain⟨Y,Z,G⟩:=bnd G;have a2:∀l,(l)=Y->∀p q t U w,FR 34 [] U [(5,.slice p q t)]->SH r (own k61 61 p q t l::L) w->I U w:=by intro l ht p q t U w J X;subst ht;replace G:yO l=some y:=G;unfold yO at G;exact c6 l G p q t U w (J.sub _ rfl) X
 replace X:=SH.nil_own (d:=k61) (e:=61) X;refine aV Z (λs U w=>∃b c f,FR 34 [] U [(0,.slice A0 n0 c0),(1,.int .i64 a1),(5,.slice b c f),(6,.int .i64 s.2)]/\SH r (own k61 61 b c f s.1::L) w) ⟨none,0,0,J.sub _ rfl,X⟩ ?_;intro d1 a3 C G a4 a5 U w Q;obtain⟨i,k⟩:=a3;replace G:nJ a0 a1 i k=some C:=G;unfold nJ at G
 try dsimp only at Q
 obtain⟨b,c,f,J,X⟩:=Q;refine wp_seq_k λd2 a6=>wp_seq_k λa7 a8=>?_;have R:∀D,rV a0 a1 i k D=some C->∀U w,FR 34 [] U [(0,.slice A0 n0 c0),(1,.int .i64 a1),(5,.slice b c f),(6,.int .i64 k),(15,.bool D)]->SH r (own k61 61 b c f i::L) w->a7 U w:=by
  intro D G U w J X;unfold rV at G;refine a8 _ _ (aZ J G rfl (λa9 G=>?_) λa9 G=>?_)
  ·refine wp_skip (a6 _ _ ?_);refine wp_seq_k λd3 b1=>aA λb2 b3=>?_;have S:∀E,rM k E=some C->∀x z A U w,FR 34 [] U [(0,.slice A0 n0 c0),(1,.int .i64 a1),(5,.slice x z A),(6,.int .i64 k)]->SH r (own k61 61 x z A E::L) w->b2 U w:=by intro E G x z A U w J X;unfold rM at G;refine b3 _ _ (b1 _ _ ?_);refine aF (x_m J rfl λU J=>?_);refine x_l G J rfl λd4 _ U J G=>x_m J rfl λU J=>wpList_nil ?_;cases G;exact⟨_,a4 _ rfl,x,z,A,J.sub _ rfl,X⟩
   refine ws λd5 b4=>xk 2 J rfl λU J=>?_;obtain⟨a,K,G⟩:=bnd G;refine fL jF jT (X.rdl 1 H rfl) K J rfl λU J=>?_;obtain⟨cs,hV,b5⟩:=el (X.rdl 1 H rfl) K;obtain rfl:=hV;refine iS (cs:=[.int .u64 a.f0,.int .i64 a.f1,.int .i64 a.f2,str a.f3,.float .f64 a.f4]) aFi jT (λj u h=>by rw [iJ]; exact b5 _ _ h) J rfl λU J=>fC (cs:=[.int .u64 0,.int .i64 0,.int .i64 0,str [],.float .f64 0]) aNy J X rfl λM U w X J=>eL 0 jT J X rfl rfl λU w X J=>wn (b4 _ _ ?_);refine ws λd6 b6=>xk 1 J rfl λU J=>aX jF (X.rd 1 rfl).2.1 J rfl λU J=>eT G J (aR uu3 bZ rfl (J.ev rfl)) rfl λg _ U J G=>aQ mS J rfl λU J=>eL 0 aRd J X rfl rfl λU w X J=>wn (b6 _ _ ?_);refine ws λd7 b7=>iS (ad:=⟨M,0,none⟩) (cs:=[.int .u64 g,.int .i64 a.f1,.int .i64 a.f2,str a.f3,.float .f64 a.f4]) aFi jT (λj u h=>by rw [gX,Nat.zero_add]; exact X.cell 0 rfl j u h) J rfl λU J=>x_m J rfl λU J=>?_;obtain⟨d8,b8,G⟩:=bnd G;refine x_c bDh J rfl (aOo b8 X :) λv U w hR J=>?_;obtain⟨rfl,X⟩:=hR;refine wn (b7 _ _ ?_);refine aZ J G rfl (λb9 G=>?_) λb9 G=>?_
   ·refine aF (x_m J rfl λU J=>?_);refine iS (ad:=⟨M,0,none⟩) (cs:=[.int .u64 g,.int .i64 a.f1,.int .i64 a.f2,str a.f3,.float .f64 a.f4]) aFi jT (λj u h=>by rw [gX,Nat.zero_add]; exact X.cell 0 rfl j u h) J rfl λU J=>kK (d:=k61) (e:=61) (ps:=#[(0,.agg #[.int .u64 g,.int .i64 a.f1,.int .i64 a.f2,str a.f3,.float .f64 a.f4])]) (cells:=[.int .u64 g,.int .i64 a.f1,.int .i64 a.f2,str a.f3,.float .f64 a.f4]) (xs:=[(⟨g,a.f1,a.f2,a.f3,a.f4⟩:S61)]) (λw=>by kernel_rfl) rfl ⟨[.int .u64 g,.int .i64 a.f1,.int .i64 a.f2,str a.f3,.float .f64 a.f4],_,rfl,rfl,rfl⟩ J X rfl λd9 U w X J=>?_;obtain⟨c1,G⟩:=aC G;have hr:=X.rd 0 rfl;refine lB 2 aNh jF J X hr.1 hr.2.1 c1 rfl rfl λc2 c3 c4 U w X J=>x_m J rfl λU J=>wpList_nil ?_;replace X:=X.drop 1 |>.drop 1;exact S (i++[(⟨g,a.f1,a.f2,a.f3,a.f4⟩:S61)]) G c2 c3 c4 U w (J.sub _ rfl) X
   replace X:=X.drop 0;exact wp_skip (S i G b c f U w (J.sub _ rfl) X)
  cases G;exact wp_exit (a2 i (a5 _ rfl) b c f U w (J.sub _ rfl) X)
 refine aF (xk 2 J rfl λU J=>?_);refine aX jF (X.rdl 1 H rfl).2.1 J rfl λU J=>xk 2 J rfl λU J=>bcG G (λF G=>?_) λF G=>?_
 ·exact ng 3 F J rfl rfl λU J=>R (decide (k<250)) G U w (J.sub _ rfl) X
 exact ng 3 F J rfl rfl λU J=>R false G U w (J.sub _ rfl) X
theorem aMu {y} (G:aCg=some y) (X:SH r (L) w) :
  Ret Tryz.prog 26 #[] w λv w'=>v=.agg #[.int .u64 y.f0,.int .u64 y.f1,.int .i64 y.f2,.int .i64 y.f3]/\SH r (L) w':=by
 refine enter Tryz.func26 rfl Tryz.ntmps26 [] rfl (by simp) ?_;intro U J Qf c h;unfold aCg at G;refine ws λe a=>fC (cs:=[.int .u64 0,.int .u64 0,.int .i64 0,.int .i64 0]) bEq J X rfl λf U w X J=>wn (a _ _ ?_);refine ws λg b=>x_v (v:=.agg #[.int .u64 0,.int .u64 1099511627776,.int .i64 (-1099511627776),.int .i64 1099511627776]) J (iP (ps:=#[(1,.int .u64 1099511627776),(2,.int .i64 (-1099511627776)),(3,.int .i64 1099511627776)]) rfl (lL J rfl) (λw=>by kernel_rfl)) rfl λU J=>eL 0 aQz J X rfl rfl λU w X J=>wn (b _ _ ?_);refine wp_ret ?_;have d:=X;replace X:=X.drop 0;cases G;refine c _ _ (bAh (cs:=[.int .u64 0,.int .u64 1099511627776,.int .i64 (-1099511627776),.int .i64 1099511627776]) Tryz.results26 aSw aQz d 0 rfl J rfl rfl ?_);exact⟨rfl,X⟩
theorem aI1 {y} (G:wG=some y) (X:SH r (zone Z wz::L) w) (b4:Imm Z wz (kI .u32) (some ⟨0,0,none⟩) 16 16 bY) (b5:Gb Z wz 2 .u64 bN) :
  Ret Tryz.prog 8 #[] w λv w'=>∃ (Z':Nat->Prop) (wz':World),v=.bool y/\Sub Z wz Z' wz'/\SH r (zone Z' wz'::L) w':=by
 refine enter Tryz.func8 rfl Tryz.ntmps8 [] rfl (by simp) ?_;intro U J Qf R p9;unfold wG at G;refine nz 1 J rfl λU J=>ws λm2 e1=>?_;obtain⟨m3,e2,G⟩:=bnd G;refine x_c bB2 J rfl (aF3 e2 X :) λv U w b J=>?_;obtain⟨m4,rfl,X⟩:=b;refine xk 4 J rfl λU J=>?_;obtain⟨e3,e4,G⟩:=bnd G;rw [e4] at X;have hU:=SH.unoptS X;clear X;obtain⟨l,d3,S⟩:=hU;subst d3;replace X:=S;clear S;obtain⟨m5,m6,m7,X⟩:=aH X;refine x_m J rfl λU J=>wn (e1 _ _ ?_);refine ws λm8 e5=>xk 1 J rfl λU J=>?_;replace X:=(aD (x:=e3) (X.pk 1 |>.pk 1)).pk 1 |>.pk 1;obtain⟨a,e6,G⟩:=bnd G;refine x_c aYi J rfl (yR e6 X b4 b5 :) λv U w b J=>?_;obtain⟨T,W,m9,rfl,f,X⟩:=b;obtain⟨C,D,E,X⟩:=aH (X.pk 1);refine xk 4 J rfl λU J=>?_;replace X:=X.pk 2;obtain⟨g,e7,G⟩:=bnd G;rw [e7] at X;have hU:=SH.unoptS X;clear X;obtain⟨o,d3,S⟩:=hU;subst d3;replace X:=S;clear S;obtain⟨F,H,I,X⟩:=bG X;refine x_m J rfl λU J=>wn (e5 _ _ ?_);refine wp_seq_k λn0 e8=>nz 2 J rfl λU J=>aZ J G rfl (λe9 G=>?_) λe9 G=>?_
 ·refine nz 1 J rfl λU J=>?_;replace X:=X.drop 0 |>.drop 0 |>.drop 0 |>.drop 0;cases G;refine wp_ret (R _ _ ?_);exact lv Tryz.results8 J rfl ⟨T,W,rfl,f,X⟩
 refine wp_skip (e8 _ _ ?_);refine nz 1 J rfl λU J=>wp_seq_k λn1 f5=>nz 1 J rfl λU J=>aA λd5 f6=>?_;have m0:∀b6,uJ a g b6=some y->∀Y a0 a1 U w,FR 64 [] U [(3,(pP o)),(5,.slice Y a0 a1)]->SH r (blk o 79 [.pointer (some ⟨l,0,none⟩),.int .i64 g.f1,.slice F H I]::blk l 77 [.slice C D E,.int .i64 a.2.2.f1,.int .i64 a.2.2.f2,.bool a.2.2.f3,.int .i64 a.2.2.f4]::own2 kp98 (kI .u8) 5 (λx:S98=>x.f1) 98 C D E a.2.2.f0::own k46 46 F H I g.f2::own k61 61 Y a0 a1 b6::zone T W::L) w->d5 U w:=by
  intro b6 G Y a0 a1 U w J X;unfold uJ at G;refine f6 _ _ (f5 _ _ ?_);refine wp_seq_k λn2 f7=>wp_seq_k λf8 f9=>?_;have d4:∀b7 b8 b9 c0 c1 a2 a3 c2,oL b7 b8 b9 c0 c1 a2 a3 c2=some y->∀t u c3 c4 c5 c6 c7 c8 (N:Sub Z wz t u) U w,FR 64 [] U [(3,(pP o)),(46,.bool c2)]->SH r (blk o 79 [.pointer (some ⟨l,0,none⟩),.int .i64 a2,.slice c6 c7 c8]::blk l 77 [.slice c3 c4 c5,.int .i64 b8,.int .i64 b9,.bool c0,.int .i64 c1]::own2 kp98 (kI .u8) 5 (λx:S98=>x.f1) 98 c3 c4 c5 b7::own k46 46 c6 c7 c8 a3::zone t u::L) w->f8 U w:=by
   intro b7 b8 b9 c0 c1 a2 a3 c2 G t u c3 c4 c5 c6 c7 c8 N U w J X;unfold oL at G;refine f9 _ _ (aZ J G rfl (λg0 G=>?_) λg0 G=>?_)
   ·refine nz 1 J rfl λU J=>?_;replace X:=X.drop 0 |>.drop 0 |>.drop 0 |>.drop 0;cases G;refine wp_ret (R _ _ ?_);exact lv Tryz.results8 J rfl ⟨t,u,rfl,N,X⟩
   refine wp_skip (f7 _ _ ?_);refine ws λn3 g1=>xk 1 J rfl λU J=>?_;replace X:=X.pk 3 |>.pk 1;replace X:=aW (x:=(⟨(),a2,a3⟩:S79)) X;obtain⟨g2,g3,G⟩:=bnd G;refine x_c bDn J rfl (zB g3 X :) λv U w b J=>?_;obtain⟨n4,n5,n6,rfl,X⟩:=b;obtain⟨n7,n8,n9,X⟩:=bG (X.pk 1);refine x_m J rfl λU J=>wn (g1 _ _ ?_);refine ws λo0 c9=>xk 1 J rfl λU J=>aX hT (X.rd 2 rfl).2.1 J rfl λU J=>xk 2 J rfl λU J=>bcG G (λp G=>?_) λp G=>?_
   ·refine xg 1 p J rfl rfl λU J=>aL p J ?_ rfl;obtain⟨o1,d6,G⟩:=bnd G;refine fL hT jO (X.rd 2 rfl) d6 J rfl λU J=>aL p J ?_ rfl;refine aPg (m:=(0:Int).toNat * 5) aHm J (λU J=>?_) rfl rfl rfl rfl rfl;refine aL p J ?_ rfl;obtain⟨cs,hV,g4⟩:=el (X.rd 2 rfl) d6;obtain rfl:=hV;refine aN uu9 (g4 0 _ rfl) J rfl λU J=>aL p J ?_ rfl;refine x_v J (aKa rfl (J.ev rfl) (J.ev rfl)) rfl λU J=>xg 2 p J rfl rfl λU J=>bcG G (λO G=>?_) λO G=>?_
    ·refine xg 1 O J rfl rfl λU J=>aL O J ?_ rfl;replace X:=aW (x:=g2.2) (X.pk 1 |>.pk 1);obtain⟨o2,g5,G⟩:=bnd G;refine x_c aY2 J rfl (rC g5 X :) λv U w b J=>?_;obtain⟨rfl,X⟩:=b;obtain⟨o3,o4,o5,X⟩:=bG X;refine ng 3 O J rfl rfl λU J=>?_;replace X:=X.drop 0 |>.drop 0 |>.drop 0 |>.drop 0 |>.drop 0;cases G;refine c9 _ _ (wp_ret ?_);refine R _ _ (lv Tryz.results8 J rfl ?_);exact⟨t,u,rfl,N,X⟩
    refine ng 5 O J rfl rfl λU J=>?_;replace X:=X.drop 0 |>.drop 0 |>.drop 0 |>.drop 0 |>.drop 0;cases G;refine c9 _ _ (wp_ret ?_);refine R _ _ (lv Tryz.results8 J rfl ?_);exact⟨t,u,rfl,N,X⟩
   refine xg 7 p J rfl rfl λU J=>xO 3 rfl J rfl λU J=>cF rfl J rfl λU J=>x_m J rfl λU J=>wn (c9 _ _ ?_);replace X:=X.drop 0 |>.drop 0 |>.drop 0 |>.drop 0 |>.drop 0;cases G;refine wp_ret (R _ _ ?_);exact lv Tryz.results8 J rfl ⟨t,u,rfl,N,X⟩
  refine aF (xk 2 J rfl λU J=>?_);replace X:=X.pk 5 |>.pk 5;obtain⟨o6,o7,X,a4,h⟩:=SH.freeze (n:=a0) (c:=a1) (A:=Y) X;obtain⟨o8,d0,G⟩:=bnd G;obtain⟨g6,g7,g8,g9,d7⟩:=aIk a4 d0;refine x_v (v:=.slice g6 g7 g8) J (aD4 g9 (mY jF jT rfl (J.ev rfl) (J.ev rfl) (oJ (X.imm 0 a4 rfl) d0).2.2.2.2.1 (oJ (X.imm 0 a4 rfl) d0).2.2.1)) rfl λU J=>?_;replace X:=(aD (x:=a.2.2) ((aW (x:=g) (X.pk 4 |>.pk 2)).pk 3 |>.pk 3)).pk 2 |>.pk 1 |>.pk 2;obtain⟨i,h0,G⟩:=bnd G;refine x_c aUw J rfl (lJ h0 X d7 (Imm.sub b4 (Sub.trans f h)) (Gb.sub b5 (Sub.trans f h)) :) λv U w b J=>?_;obtain⟨h1,h2,rfl,j,X⟩:=b;have a5:=Imm.sub a4 j;have h3:=Imm.sub d7 j;obtain⟨h4,h5,h6,X⟩:=bG X;obtain⟨h7,h8,h9,X⟩:=aH (X.pk 2);refine xk 2 J rfl λU J=>bcG G (λK G=>?_) λK G=>?_
  ·refine xg 7 K J rfl rfl λU J=>xO 3 rfl J rfl λU J=>oN rfl J rfl λU J=>wpList_nil ?_;replace X:=X.pk 4 |>.pk 4 |>.pk 3 |>.pk 3 |>.pk 4;exact d4 i.2.2.f0 i.2.2.f1 i.2.2.f2 i.2.2.f3 i.2.2.f4 i.2.1.f1 i.2.1.f2 true G h1 h2 h7 h8 h9 h4 h5 h6 (Sub.trans (Sub.trans f h) j) U w (J.sub _ rfl) X
  refine xg 2 K J rfl rfl λU J=>aL K J ?_ rfl;obtain⟨o9,d1,G⟩:=bnd G;obtain⟨i0,i1,i2,i3,d8⟩:=aFn a5 d1;refine x_v (v:=.slice i0 i1 i2) J (aD4 i3 (kX jF jT rfl (J.ev rfl) (J.ev rfl) (oJ (X.imm 4 a5 rfl) d1).1 (oJ (X.imm 4 a5 rfl) d1).2.2.2.2.2)) rfl λU J=>aL K J ?_ rfl;replace X:=(aD (x:=i.2.2) ((aW (x:=i.2.1) (X.pk 3 |>.pk 3)).pk 2 |>.pk 2)).pk 2 |>.pk 1 |>.pk 2;obtain⟨k,i4,G⟩:=bnd G;refine x_c aUw J rfl (lJ i4 X d8 (Imm.sub b4 (Sub.trans (Sub.trans f h) j)) (Gb.sub b5 (Sub.trans (Sub.trans f h) j)) :) λv U w b J=>?_;obtain⟨i5,i6,rfl,z,X⟩:=b;have i7:=Imm.sub a5 z;have i8:=Imm.sub h3 z;have i9:=Imm.sub d8 z;obtain⟨j0,j1,j2,X⟩:=bG X;obtain⟨j3,j4,j5,X⟩:=aH (X.pk 2);refine xg 3 K J rfl rfl λU J=>bcG G (λP G=>?_) λP G=>?_
  ·refine ng 4 P J rfl rfl λU J=>?_;replace X:=X.pk 4 |>.pk 4 |>.pk 3 |>.pk 3 |>.pk 4;exact d4 k.2.2.f0 k.2.2.f1 k.2.2.f2 k.2.2.f3 k.2.2.f4 k.2.1.f1 k.2.1.f2 true G i5 i6 j3 j4 j5 j0 j1 j2 (Sub.trans (Sub.trans (Sub.trans f h) j) z) U w (J.sub _ rfl) X
  refine xg 1 P J rfl rfl λU J=>aL P J ?_ rfl;replace X:=(aD (x:=k.2.2) ((aW (x:=k.2.1) (X.pk 3 |>.pk 3)).pk 2 |>.pk 2)).pk 2 |>.pk 1 |>.pk 2;obtain⟨q,j6,G⟩:=bnd G;refine x_c bDk J rfl (yZ j6 X (Imm.sub b4 (Sub.trans (Sub.trans (Sub.trans f h) j) z)) (Gb.sub b5 (Sub.trans (Sub.trans (Sub.trans f h) j) z)) :) λv U w b J=>?_;obtain⟨j7,j8,rfl,a6,X⟩:=b;have p0:=Imm.sub i7 a6;have p1:=Imm.sub i8 a6;have p2:=Imm.sub i9 a6;obtain⟨j9,k0,k1,X⟩:=bG X;obtain⟨k2,k3,k4,X⟩:=aH (X.pk 2);refine ng 2 P J rfl rfl λU J=>?_;replace X:=X.pk 4 |>.pk 4 |>.pk 3 |>.pk 3 |>.pk 4;exact d4 q.2.2.f0 q.2.2.f1 q.2.2.f2 q.2.2.f3 q.2.2.f4 q.2.1.f1 q.2.1.f2 (q.1 != 0) G j7 j8 k2 k3 k4 j9 k0 k1 (Sub.trans (Sub.trans (Sub.trans (Sub.trans f h) j) z) a6) U w (J.sub _ rfl) X
 obtain⟨k5,k6,G⟩:=bnd G;have k7:∀Q,(Q)=k5->∀a7 a8 a9 U w,FR 64 [] U [(3,(pP o)),(5,.slice a7 a8 a9)]->SH r (blk o 79 [.pointer (some ⟨l,0,none⟩),.int .i64 g.f1,.slice F H I]::blk l 77 [.slice C D E,.int .i64 a.2.2.f1,.int .i64 a.2.2.f2,.bool a.2.2.f3,.int .i64 a.2.2.f4]::own2 kp98 (kI .u8) 5 (λx:S98=>x.f1) 98 C D E a.2.2.f0::own k46 46 F H I g.f2::own k61 61 a7 a8 a9 Q::zone T W::L) w->d5 U w:=by intro Q ht a7 a8 a9 U w J X;subst ht;replace G:rS a g Q=some y:=G;unfold rS at G;exact m0 Q G a7 a8 a9 U w (J.sub _ rfl) X
 replace X:=(SH.nil_own (d:=k61) (e:=61) X).pk 5 |>.pk 1 |>.pk 3 |>.pk 5 |>.pk 5 |>.pk 5;refine aV k6 (λs U w=>∃b1 b2 b3,FR 64 [] U [(3,(pP o)),(5,.slice b1 b2 b3),(6,.int .i64 s.2)]/\SH r (blk o 79 [.pointer (some ⟨l,0,none⟩),.int .i64 g.f1,.slice F H I]::blk l 77 [.slice C D E,.int .i64 a.2.2.f1,.int .i64 a.2.2.f2,.bool a.2.2.f3,.int .i64 a.2.2.f4]::own2 kp98 (kI .u8) 5 (λx:S98=>x.f1) 98 C D E a.2.2.f0::own k46 46 F H I g.f2::own k61 61 b1 b2 b3 s.1::zone T W::L) w) ⟨none,0,0,J.sub _ rfl,X⟩ ?_;intro p3 k8 k9 G l0 l1 U w e0;obtain⟨d9,B⟩:=k8;replace G:iT d9 B=some k9:=G;unfold iT at G
 try dsimp only at e0
 obtain⟨b1,b2,b3,J,X⟩:=e0;refine wp_seq_k λp4 l2=>nz 2 J rfl λU J=>aZ J G rfl (λl3 G=>?_) λl3 G=>?_
 ·refine wp_skip (l2 _ _ ?_);refine wp_seq_k λp5 l4=>aA λp6 l5=>aF (xk 2 J rfl λU J=>?_);refine eT G J (aR uu3 bZ rfl (J.ev rfl)) rfl λM _ U J G=>x_m J rfl λU J=>x_v (v:=.agg #[.int .u64 M,.int .i64 0,.int .i64 B,str [],.float .f64 0]) J (iP (ps:=#[(0,.int .u64 M),(2,.int .i64 B)]) rfl (lL J rfl) (λw=>by kernel_rfl)) rfl λU J=>kK (d:=k61) (e:=61) (ps:=#[(0,.agg #[.int .u64 M,.int .i64 0,.int .i64 B,str [],.float .f64 0])]) (cells:=[.int .u64 M,.int .i64 0,.int .i64 B,str [],.float .f64 0]) (xs:=[(⟨M,0,B,[],0⟩:S61)]) (λw=>by kernel_rfl) rfl ⟨[.int .u64 M,.int .i64 0,.int .i64 B,str [],.float .f64 0],_,rfl,rfl,rfl⟩ J X rfl λp7 U w X J=>?_;obtain⟨l6,G⟩:=aC G;have hr:=X.rd 0 rfl;refine lB 5 aNh jF J X hr.1 hr.2.1 l6 rfl rfl λl7 l8 l9 U w X J=>x_m J rfl λU J=>wpList_nil (l5 _ _ ?_);refine l4 _ _ (aF ?_);refine x_m J rfl λU J=>x_l G J rfl λp8 _ U J G=>x_m J rfl λU J=>wpList_nil ?_;replace X:=X.drop 1 |>.pk 5 |>.pk 1 |>.pk 5 |>.pk 5 |>.pk 5 |>.pk 5;cases G;exact⟨_,l0 _ rfl,l7,l8,l9,J.sub _ rfl,X⟩
 cases G;exact wp_exit (k7 d9 (l1 _ rfl) b1 b2 b3 U w (J.sub _ rfl) X)
end
noncomputable section
set_option linter.unusedSimpArgs false
def gJ (a2:Int) (a3:Int) (b:(List S98)) (c:Int) (d:Int) (e:Bool) (f:Int) (l:Bool):Option (Bool) :=
  if l=true then (some false) else ((lY (some (⟨b,c,d,e,f⟩:S77))).bind λg=>(ltt (IntKind.i64.wrap a2) λm=>(chk ((g.length:Int)≠0) (ltt (m.tmod (g.length:Int)) λn=>((at_ g n).bind λh=>((lX (some (⟨b,c,d,e,f⟩:S77)) h).bind λo=>(ltt (IntKind.i64.wrap a3) λp=>(ltt (IntKind.i64.wrap (8 * (o.1.length:Int))) λj=>(chk (j≠0) (ltt (p.tmod j) λq=>((qQ (some (⟨b,c,d,e,f⟩:S77)) h q).bind λk=>((k.2).bind λr=>(if (k.1 != 0)=true then (some false) else ((hW r 3).bind λa=>(if (h==[99,97,116])=true then (if a.1.isNone=true then (if (a.2.1==4)=true then (some true) else (some (a.2.1==3))) else (some false)) else ((aCg).bind λs=>((a.1).bind λt=>((eR t s a.2.2).bind λi=>(if (a.2.1==0)=true then (if ((i.1.length:Int)==0)=true then (if (i.2.2.1==4)=true then (some true) else (some (i.2.2.1==3))) else (some false)) else (some false))))))))))))))))))))
def lH (a0:(List S61)) (o:Int) (a2:Int) (a3:Int):Option (Bool) :=
  (wG).bind λg=>(if (!g)=true then (some false) else ((aAr a0 3).bind λc=>(if (decide ((c.length:Int)<2))=true then (some true) else (ltt (IntKind.i64.wrap o) λh=>(ltt (IntKind.i64.wrap ((c.length:Int) - 1)) λd=>(chk (d≠0) (ltt (h.tmod d) λi=>(ltt (IntKind.i64.wrap (1+i)) λe=>((xW 4194304).bind λj=>((j.1).bind λk=>((hW k 3).bind λf=>((f.1).bind λl=>((kO c 0 e).bind λm=>((dK l m f.2.2).bind λa=>(if (a.1 != 0)=true then (gJ a2 a3 a.2.2.f0 a.2.2.f1 a.2.2.f2 a.2.2.f3 a.2.2.f4 true) else ((kO c e (c.length:Int)).bind λn=>((dK a.2.1 n a.2.2).bind λb=>(gJ a2 a3 b.2.2.f0 b.2.2.f1 b.2.2.f2 b.2.2.f3 b.2.2.f4 (b.1 != 0)))))))))))))))))))
end
theorem aBg {r:World} {L:List HP} {w:World} {Z:Nat->Prop} {wz:World} (a0:(List S61)) (a1:Int) (a2:Int) (a3:Int) (A0:Option Addr) (n0:Nat) (c0:Nat) {y:(Bool)} (G:lH a0 a1 a2 a3=some y) (k8:Imm Z wz k61 A0 n0 c0 a0) (B:Imm Z wz (kI .u32) (some ⟨0,0,none⟩) 16 16 bY) (K:Gb Z wz 2 .u64 bN) (X:SH r (zone Z wz::L) w) :
  Ret Tryz.prog 6 #[.slice A0 n0 c0,.int .u8 a1,.int .u8 a2,.int .u32 a3] w λv w'=>∃ (Z':Nat->Prop) (wz':World),v=.bool y/\Sub Z wz Z' wz'/\SH r (zone Z' wz'::L) w':=by
 refine enter Tryz.func6 rfl Tryz.ntmps6 [(0,_),(1,_),(2,_),(3,_)] rfl (by simp) ?_;intro U J Qf e u7;unfold lH at G;refine nz 1 J rfl λU J=>wp_seq_k λl1 c4=>ws λl2 c5=>?_;obtain⟨l3,c6,G⟩:=bnd G;refine x_c en8 J rfl (aI1 c6 X B K :) λv U w a J=>?_;obtain⟨c7,c8,rfl,d,X⟩:=a;have b3:=Imm.sub k8 d;refine nk 1 J rfl λU J=>c5 _ _ (aZ J G rfl (λc9 G=>?_) λc9 G=>?_)
 ·refine nz 1 J rfl λU J=>?_;cases G;refine wp_ret (e _ _ ?_);exact lv Tryz.results6 J rfl ⟨c7,c8,rfl,d,X⟩
 refine wp_skip (c4 _ _ ?_);refine ws λl4 d0=>xk 1 J rfl λU J=>?_;obtain⟨l5,d1,G⟩:=bnd G;refine x_c en9 J rfl (aM3 d1 X (b3.rdl 0 rfl) :) λv U w a J=>?_;obtain⟨d2,d3,d4,rfl,X⟩:=a;replace X:=X.pk 1 |>.pk 1;obtain⟨d5,d6,X,W,f⟩:=SH.freeze (n:=d3) (c:=d4) (A:=d2) X;have d7:=Imm.sub b3 f;refine x_m J rfl λU J=>wn (d0 _ _ ?_);refine wp_seq_k λl6 d8=>ws λl7 d9=>xk 1 J rfl λU J=>aX jF (X.imm 0 W rfl).2.1 J rfl λU J=>nk 1 J rfl λU J=>d9 _ _ (aZ J G rfl (λe0 G=>?_) λe0 G=>?_)
 ·refine nz 1 J rfl λU J=>?_;cases G;refine wp_ret (e _ _ ?_);exact lv Tryz.results6 J rfl ⟨d5,d6,rfl,(Sub.trans d f),X⟩
 refine wp_skip (d8 _ _ ?_);refine ws λl8 e1=>xk 1 J rfl λU J=>eT G J (aR uu5 uu3 rfl (J.ev rfl)) rfl λl9 _ U J G=>x_m J rfl λU J=>aX jF (X.imm 0 W rfl).2.1 J rfl λU J=>x_l G J rfl λm0 _ U J G=>?_;obtain⟨e2,G⟩:=aC G;refine eT G J (aIu rfl (J.ev rfl) (J.ev rfl) e2) rfl λm1 _ U J G=>x_l G J rfl λm2 _ U J G=>x_m J rfl λU J=>wn (e1 _ _ ?_);refine ws λm3 e3=>?_;obtain⟨m4,e4,G⟩:=bnd G;refine x_c bB2 J rfl (aF3 e4 X :) λv U w a J=>?_;obtain⟨m5,rfl,X⟩:=a;refine xk 4 J rfl λU J=>?_;obtain⟨e5,e6,G⟩:=bnd G;rw [e6] at X;have M:=SH.unoptS X;clear X;obtain⟨b4,N,i⟩:=M;subst N;replace X:=i;clear i;obtain⟨m6,m7,m8,X⟩:=aH X;refine x_m J rfl λU J=>wn (e3 _ _ ?_);refine ws λm9 e7=>xk 1 J rfl λU J=>?_;replace X:=(aD (x:=e5) (X.pk 1 |>.pk 1)).pk 1 |>.pk 1;obtain⟨e8,e9,G⟩:=bnd G;refine x_c aYi J rfl (yR e9 X (Imm.sub B (Sub.trans d f)) (Gb.sub K (Sub.trans d f)) :) λv U w a J=>?_;obtain⟨n1,n2,n3,rfl,g,X⟩:=a;have f5:=Imm.sub d7 g;have O:=Imm.sub W g;obtain⟨n4,n5,n6,X⟩:=aH (X.pk 1);refine xk 4 J rfl λU J=>?_;replace X:=X.pk 2;obtain⟨f6,f7,G⟩:=bnd G;rw [f7] at X;have M:=SH.unoptS X;clear X;obtain⟨n7,N,i⟩:=M;subst N;replace X:=i;clear i;obtain⟨n8,n9,o0,X⟩:=bG X;refine x_m J rfl λU J=>wn (e7 _ _ ?_);refine wp_seq_k λo1 f8=>wp_seq_k λf9 g0=>?_;have c3:∀o p q s t Y,gJ a2 a3 o p q s t Y=some y->∀C D a4 a5 a6 (b:Sub Z wz C D) U w,FR 126 [] U [(2,.int .u8 a2),(3,.int .u32 a3),(11,(pP b4)),(60,.bool Y)]->SH r (blk b4 77 [.slice a4 a5 a6,.int .i64 p,.int .i64 q,.bool s,.int .i64 t]::own2 kp98 (kI .u8) 5 (λx:S98=>x.f1) 98 a4 a5 a6 o::zone C D::L) w->f9 U w:=by
  intro o p q s t Y G C D a4 a5 a6 b U w J X;unfold gJ at G;refine g0 _ _ (aZ J G rfl (λg1 G=>?_) λg1 G=>?_)
  ·refine nz 1 J rfl λU J=>?_;replace X:=X.drop 0 |>.drop 0;cases G;refine wp_ret (e _ _ ?_);exact lv Tryz.results6 J rfl ⟨C,D,rfl,b,X⟩
  refine wp_skip (f8 _ _ ?_);refine ws λo2 g2=>xk 1 J rfl λU J=>?_;replace X:=X.pk 1 |>.pk 1;replace X:=SH.optS (aD (x:=(⟨o,p,q,s,t⟩:S77)) X);obtain⟨o3,g3,G⟩:=bnd G;refine x_c aZ0 J rfl (yU g3 X :) λv U w a J=>?_;obtain⟨o4,o5,o6,rfl,X⟩:=a;obtain⟨o7,o8,o9,X⟩:=aH (SH.unoptP (X.pk 1));refine x_m J rfl λU J=>wn (g2 _ _ ?_);refine ws λp0 g4=>xk 2 J rfl λU J=>eT G J (aR uu5 uu3 rfl (J.ev rfl)) rfl λp1 _ U J G=>x_m J rfl λU J=>aX tC (X.rd 2 rfl).2.1 J rfl λU J=>?_;obtain⟨g5,G⟩:=aC G;refine eT G J (aIu rfl (J.ev rfl) (J.ev rfl) g5) rfl λp2 _ U J G=>?_;obtain⟨p3,b5,G⟩:=bnd G;refine fL tC sz9 (X.rd 2 rfl) b5 J rfl λU J=>?_;obtain⟨cs,hV,g6⟩:=el (X.rd 2 rfl) b5;obtain rfl:=hV;refine aN uu9 (g6 0 _ rfl) J rfl λU J=>x_m J rfl λU J=>wn (g4 _ _ ?_);refine ws λp4 g7=>xk 2 J rfl λU J=>?_;replace X:=X.pk 1 |>.pk 1;replace X:=SH.optS (aD (x:=(⟨o,p,q,s,t⟩:S77)) X);obtain⟨p5,g8,G⟩:=bnd G;refine x_c aY4 J rfl (tF g8 X :) λv U w a J=>?_;obtain⟨p6,p7,p8,rfl,X⟩:=a;obtain⟨p9,q0,q1,X⟩:=aH (SH.unoptP (X.pk 1));refine nk 5 J rfl λU J=>g7 _ _ (wp_seq_k λq2 g9=>?_);refine ws λq3 h0=>xk 3 J rfl λU J=>eT G J (aR aDa uu3 rfl (J.ev rfl)) rfl λq4 _ U J G=>x_m J rfl λU J=>aX cM (X.rd 2 rfl).2.1 J rfl λU J=>x_l G J rfl λq5 _ U J G=>?_;obtain⟨h1,G⟩:=aC G;refine eT G J (aIu rfl (J.ev rfl) (J.ev rfl) h1) rfl λq6 _ U J G=>?_;replace X:=X.pk 1 |>.pk 1;replace X:=SH.optS (aD (x:=(⟨o,p,q,s,t⟩:S77)) X);obtain⟨q7,h2,G⟩:=bnd G;refine x_c bD0 J rfl (aDh h2 X :) λv U w a J=>?_;obtain⟨rfl,X⟩:=a;obtain⟨h3,h4,G⟩:=bnd G;rw [h4] at X;obtain⟨q8,q9,r0,X⟩:=aH (SH.unoptP X);refine nk 1 J rfl λU J=>h0 _ _ (aZ J G rfl (λh5 G=>?_) λh5 G=>?_)
  ·refine nz 1 J rfl λU J=>?_;replace X:=X.drop 0 |>.drop 0 |>.drop 0 |>.drop 0;cases G;refine wp_ret (e _ _ ?_);exact lv Tryz.results6 J rfl ⟨C,D,rfl,b,X⟩
  refine wp_skip (g9 _ _ ?_);refine ws λr1 h6=>xk 1 J rfl λU J=>?_;replace X:=(aD (x:=h3) (X.pk 1 |>.pk 1)).pk 3 |>.pk 1;obtain⟨h7,h8,G⟩:=bnd G;refine x_c aYi J rfl (yR h8 X (Imm.sub B b) (Gb.sub K b) :) λv U w a J=>?_;obtain⟨a7,a8,r2,rfl,h,X⟩:=a;obtain⟨r3,r4,r5,X⟩:=aH (X.pk 1);refine nk 5 J rfl λU J=>h6 _ _ (wp_seq_k λr6 h9=>?_);refine ws λr7 i0=>xk 1 J rfl λU J=>x_v J (aKa rfl (J.ev rfl) (J.ev rfl)) rfl λU J=>wn (i0 _ _ ?_);refine aZ J G rfl (λi1 G=>?_) λi1 G=>?_
  ·refine ws λr8 a9=>xk 1 J rfl λU J=>?_;have l0:=X.optNone 2 rfl;refine x_v J (l0▸kR aD7 rfl (J.ev rfl) (J.ev rfl)) rfl λU J=>x_m J rfl λU J=>bcG G (λj G=>?_) λj G=>?_
   ·refine xg 3 j J rfl rfl λU J=>bcG G (λE G=>?_) λE G=>?_
    ·refine xg 2 E J rfl rfl λU J=>aL j J ?_ rfl;refine xg 1 E J rfl rfl λU J=>ng 2 j J rfl rfl λU J=>?_;replace X:=X.drop 0 |>.drop 0 |>.drop 0 |>.drop 1 |>.drop 1;cases G;refine a9 _ _ (wp_ret ?_);refine e _ _ (lv Tryz.results6 J rfl ?_);exact⟨a7,a8,rfl,(Sub.trans b h),X⟩
    refine xg 2 E J rfl rfl λU J=>aL j J ?_ rfl;refine xg 1 E J rfl rfl λU J=>ng 2 j J rfl rfl λU J=>?_;replace X:=X.drop 0 |>.drop 0 |>.drop 0 |>.drop 1 |>.drop 1;cases G;refine a9 _ _ (wp_ret ?_);refine e _ _ (lv Tryz.results6 J rfl ?_);exact⟨a7,a8,rfl,(Sub.trans b h),X⟩
   refine ng 8 j J rfl rfl λU J=>?_;replace X:=X.drop 0 |>.drop 0 |>.drop 0 |>.drop 1 |>.drop 1;cases G;refine a9 _ _ (wp_ret ?_);refine e _ _ (lv Tryz.results6 J rfl ?_);exact⟨a7,a8,rfl,(Sub.trans b h),X⟩
  refine wp_skip (h9 _ _ ?_);refine ws λr9 i2=>xk 1 J rfl λU J=>?_;obtain⟨s0,i3,G⟩:=bnd G;refine x_c bEa J rfl (aMu i3 X :) λv U w a J=>?_;obtain⟨rfl,X⟩:=a;replace X:=X.pk 2;obtain⟨s2,i4,G⟩:=bnd G;rw [i4] at X;have M:=SH.unoptS X;clear X;obtain⟨s3,N,i⟩:=M;subst N;replace X:=i;clear i;replace X:=(aD (x:=h7.2.2) (X.pk 2 |>.pk 2)).pk 2 |>.pk 1 |>.pk 2;obtain⟨s4,i5,G⟩:=bnd G;refine x_c bCq J rfl (uO i5 X (Imm.sub B (Sub.trans b h)) :) λv U w a J=>?_;obtain⟨P,Q,s5,s6,s7,rfl,R,X⟩:=a;obtain⟨s8,s9,t0,X⟩:=bG (X.pk 1);obtain⟨t1,t2,t3,X⟩:=aH (X.pk 3);refine nk 7 J rfl λU J=>i2 _ _ (ws λt4 S=>?_);refine xk 3 J rfl λU J=>bcG G (λF G=>?_) λF G=>?_
  ·refine xg 1 F J rfl rfl λU J=>aL F J ?_ rfl;refine aX jF (X.rd 4 rfl).2.1 J rfl λU J=>xg 3 F J rfl rfl λU J=>bcG G (λk G=>?_) λk G=>?_
   ·refine xg 3 k J rfl rfl λU J=>bcG G (λH G=>?_) λH G=>?_
    ·refine xg 2 H J rfl rfl λU J=>aL k J ?_ rfl;refine xg 1 H J rfl rfl λU J=>ng 2 k J rfl rfl λU J=>?_;replace X:=X.drop 0 |>.drop 0 |>.drop 0 |>.drop 0 |>.drop 0 |>.drop 1 |>.drop 1;cases G;refine S _ _ (wp_ret ?_);refine e _ _ (lv Tryz.results6 J rfl ?_);exact⟨P,Q,rfl,(Sub.trans (Sub.trans b h) R),X⟩
    refine xg 2 H J rfl rfl λU J=>aL k J ?_ rfl;refine xg 1 H J rfl rfl λU J=>ng 2 k J rfl rfl λU J=>?_;replace X:=X.drop 0 |>.drop 0 |>.drop 0 |>.drop 0 |>.drop 0 |>.drop 1 |>.drop 1;cases G;refine S _ _ (wp_ret ?_);refine e _ _ (lv Tryz.results6 J rfl ?_);exact⟨P,Q,rfl,(Sub.trans (Sub.trans b h) R),X⟩
   refine ng 8 k J rfl rfl λU J=>?_;replace X:=X.drop 0 |>.drop 0 |>.drop 0 |>.drop 0 |>.drop 0 |>.drop 1 |>.drop 1;cases G;refine S _ _ (wp_ret ?_);refine e _ _ (lv Tryz.results6 J rfl ?_);exact⟨P,Q,rfl,(Sub.trans (Sub.trans b h) R),X⟩
  refine xg 5 F J rfl rfl λU J=>xO 3 rfl J rfl λU J=>xk 2 J rfl λU J=>xO 1 rfl J rfl λU J=>cF rfl J rfl λU J=>x_m J rfl λU J=>wn (S _ _ ?_);replace X:=X.drop 0 |>.drop 0 |>.drop 0 |>.drop 0 |>.drop 0 |>.drop 1 |>.drop 1;cases G;refine wp_ret (e _ _ ?_);exact lv Tryz.results6 J rfl ⟨P,Q,rfl,(Sub.trans (Sub.trans b h) R),X⟩
 refine aF (xk 3 J rfl λU J=>?_);obtain⟨t5,b1,G⟩:=bnd G;obtain⟨i6,i7,i8,i9,b6⟩:=aIk O b1;refine x_v (v:=.slice i6 i7 i8) J (aD4 i9 (mY jF jT rfl (J.ev rfl) (J.ev rfl) (oJ (X.imm 4 O rfl) b1).2.2.2.2.1 (oJ (X.imm 4 O rfl) b1).2.2.1)) rfl λU J=>?_;replace X:=(aD (x:=e8.2.2) ((aW (x:=f6) (X.pk 1 |>.pk 1)).pk 2 |>.pk 2)).pk 2 |>.pk 1 |>.pk 2;obtain⟨l,j0,G⟩:=bnd G;refine x_c aUw J rfl (lJ j0 X b6 (Imm.sub B (Sub.trans (Sub.trans d f) g)) (Gb.sub K (Sub.trans (Sub.trans d f) g)) :) λv U w a J=>?_;obtain⟨j1,j2,rfl,m,X⟩:=a;have j3:=Imm.sub f5 m;have T:=Imm.sub O m;have j4:=Imm.sub b6 m;obtain⟨t6,t7,t8,X⟩:=bG X;obtain⟨j5,j6,j7,X⟩:=aH (X.pk 2);refine xk 2 J rfl λU J=>bcG G (λu G=>?_) λu G=>?_
 ·refine ng 7 u J rfl rfl λU J=>?_;replace X:=X.drop 2 |>.drop 2;exact c3 l.2.2.f0 l.2.2.f1 l.2.2.f2 l.2.2.f3 l.2.2.f4 true G j1 j2 j5 j6 j7 (Sub.trans (Sub.trans (Sub.trans d f) g) m) U w (J.sub _ rfl) X
 refine xg 3 u J rfl rfl λU J=>aL u J ?_ rfl;obtain⟨t9,b2,G⟩:=bnd G;obtain⟨j8,j9,k0,k1,b7⟩:=aFn T b2;refine x_v (v:=.slice j8 j9 k0) J (aD4 k1 (kX jF jT rfl (J.ev rfl) (J.ev rfl) (oJ (X.imm 4 T rfl) b2).1 (oJ (X.imm 4 T rfl) b2).2.2.2.2.2)) rfl λU J=>aL u J ?_ rfl;replace X:=(aD (x:=l.2.2) ((aW (x:=l.2.1) (X.pk 3 |>.pk 3)).pk 2 |>.pk 2)).pk 2 |>.pk 1 |>.pk 2;obtain⟨z,k2,G⟩:=bnd G;refine x_c aUw J rfl (lJ k2 X b7 (Imm.sub B (Sub.trans (Sub.trans (Sub.trans d f) g) m)) (Gb.sub K (Sub.trans (Sub.trans (Sub.trans d f) g) m)) :) λv U w a J=>?_;obtain⟨k3,k4,rfl,I,X⟩:=a;have u0:=Imm.sub j3 I;have u1:=Imm.sub T I;have u2:=Imm.sub j4 I;have u3:=Imm.sub b7 I;obtain⟨u4,u5,u6,X⟩:=bG X;obtain⟨k5,k6,k7,X⟩:=aH (X.pk 2);refine ng 2 u J rfl rfl λU J=>?_;replace X:=X.drop 2 |>.drop 2;exact c3 z.2.2.f0 z.2.2.f1 z.2.2.f2 z.2.2.f3 z.2.2.f4 (z.1 != 0) G k3 k4 k5 k6 k7 (Sub.trans (Sub.trans (Sub.trans (Sub.trans d f) g) m) I) U w (J.sub _ rfl) X
end Go.Proofs.YtdkpjpoajlmmfaaGreatDoor.M
namespace Go.Proofs.YtdkpjpoajlmmfaaGreatDoor.catalogSpoilt
open Go Go.RowKit Go.ChangeShapes Go.WideShapes Go.ChangeAt Go.Proofs.YtdkpjpoajlmmfaaGreatDoor.E Go.Proofs.YtdkpjpoajlmmfaaGreatDoor.M
set_option linter.unusedVariables false
theorem own:ownKnob Tryz.prog.godebug=none:=by kernel_rfl
theorem aGw:laidOutB Tryz.prog=true:=by kernel_rfl
theorem gN0 : Tryz.prog.globalNamed "headrace/page.table" = some 0 := by kernel_rfl
theorem gT0:(Tryz.prog.globals[0]?).map (·.type)=some 174:=by kernel_rfl
theorem gN2 : Tryz.prog.globalNamed "internal/strconv.uint64pow10" = some 2 := by kernel_rfl
theorem gT2:(Tryz.prog.globals[2]?).map (·.type)=some 200:=by kernel_rfl
theorem aTe (os:Os) (args:Array Value):laidMetH Tryz.prog Rows.catalogSpoiltRow.laid ((World.doorLaid Tryz.prog 400 os).forCall (λ_ _=>0) ⟨#[],args,[]⟩).memory :=
  laidMetH_of_parts3 (fuel:=8) (laidMet_of_run' 8 (by kernel_rfl) (by kernel_rfl)) (by kernel_rfl) (by kernel_rfl)
theorem aSi {W:World} (h:laidMetH Tryz.prog Rows.catalogSpoiltRow.laid W):Imm (aF0 W) W (kI .u32) (some ⟨0,0,none⟩) 16 16 M.bY:=by
  rw [MakeChecks.laidMetH_plain _ _ _ (by kernel_rfl)] at h;replace h := h.filter (fun x => x.1 == "headrace/page.table")
  exact aWk gN0 gT0 Tryz.underlying174 Tryz.underlying67 bEx rfl (by decide) h
theorem aR7 {W:World} (h:laidMetH Tryz.prog Rows.catalogSpoiltRow.laid W):Gb (aF0 W) W 2 .u64 M.bN:=by
  rw [MakeChecks.laidMetH_plain _ _ _ (by kernel_rfl)] at h;replace h := h.filter (fun x => x.1 == "internal/strconv.uint64pow10")
  exact aYa gN2 gT2 Tryz.underlying200 Tryz.underlying24 bCw (by kernel_rfl) h
def aY0:Prop:=∀ (a0:(List M.S61)) (a:Int) (a2:Int) (a3:Int),(gL 48 M.g61) a0->(gI .u8) a->(gI .u8) a2->(gI .u32) a3->M.lH a0 a a2 a3=some true
set_option maxRecDepth 100000 in
theorem aZb (I:aY0) (os:Os) (started:os.Started) (H:Type) (enc:TypeId×Value->H) :
    ReturnsInHanded {} Tryz.checked os 6 .any (λw args=>(Rows.catalogSpoiltSpec.pre enc Tryz.prog Tryz.f6 [] false w args/\laidMetH Tryz.prog Rows.catalogSpoiltRow.laid w)/\sizedMet enc Tryz.prog Tryz.f6 (OpenSpec.ofChange Rows.catalogSpoiltSpec) false w args)
      (Rows.catalogSpoiltSpec.post enc Tryz.prog Tryz.f6 false true false false):=by
  refine returnsInHanded_of_change_and (C:=Tryz.checked) (X:=λw _=>laidMetH Tryz.prog Rows.catalogSpoiltRow.laid w) (λ_ _ _ J h=>h.of_heap J) own started (by kernel_rfl) Tryz.func6
    (ChangeSpec.witness_shaped (enc:=enc) (C:=Tryz.checked) (os:=os) (X:=λw _=>laidMetH Tryz.prog Rows.catalogSpoiltRow.laid w) false (World.doorLaid Tryz.prog 400 os) #[.slice none 0 0,.int .u8 0,.int .u8 0,.int .u32 0] 8 rfl (World.shaped_of_RefB (by kernel_rfl) (by kernel_rfl)) (by kernel_rfl) (by kernel_rfl) (by kernel_rfl) (aTe os _)) ?_
  intro W base args ds gs before g i b7 k hL _;have a:(DataW.weightsEach Tryz.prog (Tryz.f6.params.toList++Rows.catalogSpoiltSpec.plain.varTypes Tryz.prog) (ds++gs)).all (· <= reachBytes)=true:=k
  have b:∀ (j:Nat) t v,Tryz.f6.params[j]?=some t->args[j]?=some v->Value.okWide Tryz.prog W .any base t v:=g;have K:=i;obtain⟨p,q,l,N,rfl,b8,b9⟩:=i;have hA:DataW.TrodAll enc Tryz.prog W 0 (λ_=>true) true Tryz.f6.params.toList args.toList ds p:=l;rw [Tryz.params6] at hA b a;obtain⟨v0,c1,d0,c3,O,q0,c5,rfl,rfl,h0,P⟩:=trodAll_cons hA;obtain⟨n,c6,d1,c8,p1,q1,rfl,rfl,rfl,o,Q⟩:=trodAll_cons P;obtain⟨r,d4,d2,d6,p2,q2,rfl,rfl,rfl,s,R⟩:=trodAll_cons Q;obtain⟨v3,d8,d3,e0,p3,q3,rfl,rfl,rfl,u,S⟩:=trodAll_cons R;obtain⟨rfl,rfl,rfl⟩:=trodAll_nil S;obtain rfl:args=#[v0,n,r,v3]:=by cases args; simp_all
  obtain⟨rfl,rfl⟩:=trodVars_none N;have y:=h0;have T:∀ x∈O,x.block<W.heap.size:=by obtain⟨m,hm⟩:=y; exact DataW.trod_lt m _ _ _ hm
  obtain⟨z,U,Y⟩:=Opens.arg (bEl Tryz.underlying22 bC6 (Nat.succ_pos _) bDx op61) h0 (Wt.of a (j:=0) rfl rfl);obtain⟨A,B,D,rfl⟩:=okWide_slice Tryz.underlying22 (b 0 22 v0 rfl rfl);obtain⟨a0,a1,a2,a3,i0⟩:=U;cases (show [Value.slice A B D]=[Value.slice a0 a1 a2] from a3);have E:=o;have a4:∀ x∈p1,x.block<W.heap.size:=by obtain⟨m,hm⟩:=E; exact DataW.trod_lt m _ _ _ hm
  obtain⟨c,a5,g1⟩:=Opens.arg (opI Tryz.underlying5) o (Wt.of a (j:=1) rfl rfl);obtain⟨u1,rfl⟩:=okWide_int Tryz.underlying5 (b 1 5 n rfl rfl);cases (show [Value.int .u8 u1]=[Value.int .u8 c] from a5);have F:=s;have a8:∀ x∈p2,x.block<W.heap.size:=by obtain⟨m,hm⟩:=F; exact DataW.trod_lt m _ _ _ hm
  obtain⟨d,a9,g2⟩:=Opens.arg (opI Tryz.underlying5) s (Wt.of a (j:=2) rfl rfl);obtain⟨u2,rfl⟩:=okWide_int Tryz.underlying5 (b 2 5 r rfl rfl);cases (show [Value.int .u8 u2]=[Value.int .u8 d] from a9);have G:=u;have b3:∀ x∈p3,x.block<W.heap.size:=by obtain⟨m,hm⟩:=G; exact DataW.trod_lt m _ _ _ hm
  obtain⟨f,b4,g3⟩:=Opens.arg (opI Tryz.underlying67) u (Wt.of a (j:=3) rfl rfl);obtain⟨u3,rfl⟩:=okWide_int Tryz.underlying67 (b 3 67 v3 rfl rfl);cases (show [Value.int .u32 u3]=[Value.int .u32 f] from b4);clear l g k a;refine Calls.mono (M.aBg (Z:=aF0 W) (wz:=W) z c d f A B D (I z c d f Y g1 g2 g3) i0 (aSi hL) (aR7 hL) (L:=[]) (SH.start W)) ?_;rintro e W' ⟨v,rfl,Z',wz',rfl,hs,hS⟩;have bel:=SH.below hS hs;exact⟨_,rfl,_,_,_,[],_,[],K,trodAll_mk1 (shut_bool Tryz.underlying4 _),(trodAll_cons_mk (Below.trod aGw (by kernel_rfl) (of_decide_eq_true (by kernel_rfl)) y bel T) (trodAll_cons_mk (Below.trod aGw (by kernel_rfl) (of_decide_eq_true (by kernel_rfl)) E bel a4) (trodAll_cons_mk (Below.trod aGw (by kernel_rfl) (of_decide_eq_true (by kernel_rfl)) F bel a8) (trodAll_cons_mk (Below.trod aGw (by kernel_rfl) (of_decide_eq_true (by kernel_rfl)) G bel b3) trodAll_mk0)))),rfl,bel.frame _,λh=>by cases h⟩
theorem bD2 (a:aY0):Rows.catalogSpoiltRow.holds Tryz.pinned (OpenSpec.ofChange Rows.catalogSpoiltSpec) :=
  OpenClaim.holds_of_wide 6 Tryz.f6 rfl rfl rfl rfl rfl rfl rfl ⟨rfl,rfl,rfl,rfl,rfl⟩ rfl rfl rfl rfl rfl (by kernel_rfl) Tryz.func6 (by kernel_rfl)
    (of_decide_eq_true (by kernel_rfl)) (by unfold Func.isWrapper; first | (rw [if_pos (by decide +kernel)]; kernel_rfl) | (rw [if_neg (by decide +kernel)]; exact⟨rfl,rfl⟩))
    (λos started H enc _=>aZb a os started H enc)
def hrn:Bool×String:=Rows.catalogSpoiltCard.stood.harness
theorem card (a:aY0):Rows.CatalogSpoiltCardSaid :=
  Claim7.holds_tied_plain_at .later [] [.data,.data,.data,.data] true hrn true
    (bD2 a) (λ_ h=>by cases h) (by kernel_rfl) (λ_ h=>by cases h) catalogSpoilt_row_tie rfl ⟨rfl,rfl⟩ (by kernel_rfl) rfl
    (λf fn hf b=>by
      obtain rfl : f = 6 := Option.some.inj ((show Tryz.prog.funcNamed "headrace/headracelaw08.CatalogSpoilt" = some 6 by kernel_rfl).symm.trans hf) |>.symm
      obtain rfl:fn=Tryz.f6:=(Option.some.inj (Tryz.func6.symm.trans b)).symm;exact⟨by kernel_rfl,λj t ht=>by
        rw [Tryz.params6] at ht;have hm:t∈[22,5,5,67]:=by simpa using Array.mem_of_getElem? ht
        have c:([22,5,5,67].all λu => !Tryz.prog.wantsStandIn u)=true:=by kernel_rfl
        exact (show Tryz.prog.wantsStandIn t=false by simpa using List.all_eq_true.1 c t hm)⟩)
    (by kernel_rfl)
end Go.Proofs.YtdkpjpoajlmmfaaGreatDoor.catalogSpoilt
namespace Go.Proofs.YtdkpjpoajlmmfaaGreatDoor.P
open Go Go.RowKit Go.Proofs.YtdkpjpoajlmmfaaGreatDoor.E Go.Proofs.YtdkpjpoajlmmfaaGreatDoor.M
set_option linter.unusedVariables false
set_option linter.unusedSectionVars false
theorem aOl {α:Type} (xs:List α) (n:Nat):at_ xs (n:Int)=xs[n]?:=by simp [at_]
theorem bE {α:Type} {xs:List α} {i:Int} {n:Nat} {x:α} (hi:i=n) (h:xs[n]?=some x):at_ xs i=some x:=by subst hi; rw [aOl,h]
theorem qK {α:Type} {xs:List α} {l u:Nat} (h:l<=u) (hu:u<=xs.length):kO xs (l:Int) (u:Int)=some ((xs.take u).drop l):=by unfold kO; rw [if_pos (by omega)]; simp
theorem bL {α:Type} {p:Prop} [Decidable p] {x:Option α} (h:p):chk p x=x:=if_pos h
theorem w64 {n:Int} (h : -9223372036854775808<=n) (a:n<=9223372036854775807):IntKind.i64.wrap n=n:=IntWalk.i64_in n ⟨h,a⟩
theorem oM {n:Int} (h:0<=n) (a:n<18446744073709551616):IntKind.u64.wrap n=n:=IntWalk.u64_in n ⟨h,by omega⟩
theorem u8w {n:Int} (h:0<=n) (a:n<256):IntKind.u8.wrap n=n:=IntWalk.u8_in n ⟨h,by omega⟩
theorem lt_ {α β:Type} (e:α) (f:α->Option β):ltt e f=f e:=rfl
theorem aP1 {σ τ:Type} {b:σ->Option (σ⊕τ)} (f:Nat->σ) {t:τ}:∀ (n:Nat) (i:Nat),(∀ k,i<=k->k<i+n->b (f k)=some (.inl (f (k+1))))->b (f (i+n))=some (.inr t)->loop b (f i)=some t
 | 0,i,_,he=>bK he
 | n+1,i,hs,he=>(cL (hs i (Nat.le_refl _) (by omega))).trans (aP1 f n (i+1) (λk a c=>hs k (by omega) (by omega)) (by rw [show i+1+n=i+(n+1) by omega]; exact he))
theorem kC {σ τ:Type} {b:σ->Option (σ⊕τ)} (f:Nat->σ) {t:τ} (n:Nat) (hs:∀ k,k<n->b (f k)=some (.inl (f (k+1)))) (he:b (f n)=some (.inr t)):loop b (f 0)=some t :=
 aP1 f n 0 (λk _ h=>hs k (by omega)) (by simpa using he)
theorem eI (n a:Nat):BitVec.ofInt n (a:Int)=BitVec.ofNat n a:=BitVec.ofInt_natCast n a
theorem aEt (a:Nat):IntKind.u64.wrap (a:Int)=((a % 18446744073709551616:Nat):Int):=by rw [IntKind.wrap_u64]; omega
theorem uE (a:Nat):IntKind.u8.wrap (a:Int)=((a % 256:Nat):Int):=by rw [IntKind.wrap_u8]; omega
theorem aId {a b:Nat} (c:a<18446744073709551616) (hb:b<18446744073709551616):aA3 .u64 (a:Int) (b:Int)=((a &&& b:Nat):Int):=by unfold aA3;rw [eI,eI,aEt];have h:a &&& b<18446744073709551616:=Nat.lt_of_le_of_lt Nat.and_le_left c;simp only [BitVec.toNat_and,BitVec.toNat_ofNat,show IntKind.u64.bits=64 from rfl];rw [Nat.mod_eq_of_lt (show a<2 ^ 64 by omega),Nat.mod_eq_of_lt (show b<2 ^ 64 by omega),Nat.mod_eq_of_lt h]
theorem aWm {a b:Nat} (c:a<256) (hb:b<256):aA3 .u8 (a:Int) (b:Int)=((a &&& b:Nat):Int):=by unfold aA3;rw [eI,eI,uE];have h:a &&& b<256:=Nat.lt_of_le_of_lt Nat.and_le_left c;simp only [BitVec.toNat_and,BitVec.toNat_ofNat,show IntKind.u8.bits=8 from rfl];rw [Nat.mod_eq_of_lt (show a<2 ^ 8 by omega),Nat.mod_eq_of_lt (show b<2 ^ 8 by omega),Nat.mod_eq_of_lt h]
theorem aV1 {a b:Nat} (c:a<18446744073709551616) (hb:b<18446744073709551616):ior .u64 (a:Int) (b:Int)=((a ||| b:Nat):Int):=by unfold ior;rw [eI,eI,aEt];have h:a ||| b<2 ^ 64:=Nat.or_lt_two_pow (show a<2 ^ 64 by omega) (show b<2 ^ 64 by omega);simp only [BitVec.toNat_or,BitVec.toNat_ofNat,show IntKind.u64.bits=64 from rfl];rw [Nat.mod_eq_of_lt (show a<2 ^ 64 by omega),Nat.mod_eq_of_lt (show b<2 ^ 64 by omega),Nat.mod_eq_of_lt (show a ||| b<18446744073709551616 from h)]
theorem aUg {a b:Nat} (c:a<256) (hb:b<256):ior .u8 (a:Int) (b:Int)=((a ||| b:Nat):Int):=by unfold ior;rw [eI,eI,uE];have h:a ||| b<2 ^ 8:=Nat.or_lt_two_pow (show a<2 ^ 8 by omega) (show b<2 ^ 8 by omega);simp only [BitVec.toNat_or,BitVec.toNat_ofNat,show IntKind.u8.bits=8 from rfl];rw [Nat.mod_eq_of_lt (show a<2 ^ 8 by omega),Nat.mod_eq_of_lt (show b<2 ^ 8 by omega),Nat.mod_eq_of_lt (show a ||| b<256 from h)]
theorem aTb {a b:Nat} (c:a<18446744073709551616) (hb:b<18446744073709551616):wR .u64 (a:Int) (b:Int)=((a ^^^ b:Nat):Int):=by unfold wR;rw [eI,eI,aEt];have h:a ^^^ b<2 ^ 64:=Nat.xor_lt_two_pow (show a<2 ^ 64 by omega) (show b<2 ^ 64 by omega);simp only [BitVec.toNat_xor,BitVec.toNat_ofNat,show IntKind.u64.bits=64 from rfl];rw [Nat.mod_eq_of_lt (show a<2 ^ 64 by omega),Nat.mod_eq_of_lt (show b<2 ^ 64 by omega),Nat.mod_eq_of_lt (show a ^^^ b<18446744073709551616 from h)]
theorem aE0 (n:Nat):(2:Int) ^ n=((2 ^ n:Nat):Int):=(Int.natCast_pow 2 n).symm
theorem mD {k:IntKind} (a n:Nat) (h:n<=k.bits):oT k (a:Int) (n:Int)=((a / 2 ^ n:Nat):Int):=by unfold oT;rw [Int.toNat_natCast,Nat.min_eq_left h,aE0,Int.fdiv_eq_ediv_of_nonneg _ (Int.natCast_nonneg _)];rfl
theorem aMa (a n:Nat) (h:n<=64):uY .u64 (a:Int) (n:Int)=((a * 2 ^ n % 18446744073709551616:Nat):Int):=by unfold uY;rw [Int.toNat_natCast,show min n IntKind.u64.bits=n from Nat.min_eq_left h,aE0, ← Int.natCast_mul,aEt]
theorem aP2 (a n:Nat) (h:n<=8):uY .u8 (a:Int) (n:Int)=((a * 2 ^ n % 256:Nat):Int):=by unfold uY;rw [Int.toNat_natCast,show min n IntKind.u8.bits=n from Nat.min_eq_left h,aE0, ← Int.natCast_mul,uE]
theorem aAy {a n:Nat} (h:a<2 ^ n) (b:Nat):a ||| (b * 2 ^ n)=a+b * 2 ^ n:=by rw [Nat.or_comm,Nat.mul_comm, ← Nat.two_pow_add_eq_or_of_lt h,Nat.add_comm]
def uv (n:Nat):List Int:=if h:n<128 then [(n:Int)] else ((n % 128+128:Nat):Int)::uv (n / 128)
termination_by n
decreasing_by omega
theorem aB6 {n:Nat} (h:n<128):uv n=[(n:Int)]:=by rw [uv,dif_pos h]
theorem aBq {n:Nat} (h:¬ n<128):uv n=((n % 128+128:Nat):Int)::uv (n / 128):=by rw [uv,dif_neg h]
theorem aJz:∀ (k n:Nat),n<128 ^ (k+1)->(uv n).length<=k+1
 | 0,n,h=>by rw [aB6 (by simpa using h)]; simp
 | k+1,n,h=>by
  by_cases hn:n<128
  ·rw [aB6 hn]; simp
  ·rw [aBq hn,List.length_cons];have:=aJz k (n / 128) (by rw [Nat.pow_succ] at h; exact Nat.div_lt_of_lt_mul (by rw [Nat.mul_comm]; exact h));omega
theorem aM {n:Nat} (h:n<18446744073709551616):(uv n).length<=10:=aJz 9 n (by omega)
set_option maxRecDepth 100000 in
theorem aZo:∀ m:Fin 256,(m.val ||| 128)=m.val % 128+128:=by decide
theorem sN (n:Nat):∀ (a0:List Int),n<18446744073709551616->a0.length+(uv n).length<=140737488355328->fT a0 (n:Int)=some (a0++uv n):=by
 induction n using Nat.strongRecOn with
 | _ n ih =>
  intro a0 h hl;unfold fT;by_cases hn:n<128
  ·rw [bK (t:=(a0,(n:Int))) (by
    show mE a0 (n:Int)=_;unfold mE;rw [if_neg (by simp only [decide_eq_true_eq]; omega)])]
   simp only [Option.bind_some];unfold rO uR;rw [aB6 hn] at hl ⊢;rw [lt_,u8w (by omega) (by omega),bL (by simpa using hl)]
  ·have c:=hl;rw [aBq hn,List.length_cons] at c;have d:IntKind.u8.wrap (n:Int)=((n % 256:Nat):Int):=uE n;have e:ior .u8 ((n % 256:Nat):Int) 128=((n % 128+128:Nat):Int):=by have:=aUg (a:=n % 256) (b:=128) (by omega) (by omega);rw [show ((128:Nat):Int)=128 from rfl] at this;rw [this,aZo ⟨n % 256,by omega⟩];simp only;omega
   have f:oT .u64 (n:Int) 7=((n / 128:Nat):Int):=mD (k:=.u64) n 7 (by decide);rw [cL (s':=(a0++[((n % 128+128:Nat):Int)],((n / 128:Nat):Int))) (by
    show mE a0 (n:Int)=_;unfold mE;rw [if_pos (by simp only [decide_eq_true_eq]; omega),lt_,d,lt_,e,bL (by simp; omega),lt_,f])]
   have:=ih (n / 128) (by omega) (a0++[((n % 128+128:Nat):Int)]) (by omega) (by simp; omega);unfold fT at this;rw [this,aBq hn];simp
def zz (i:Int):Nat:=if i<0 then (-(i+1)).toNat * 2+1 else i.toNat * 2
def uz (n:Nat):Int:=if n % 2=1 then -((n / 2:Nat):Int) - 1 else ((n / 2:Nat):Int)
theorem bA1 (i:Int):uz (zz i)=i:=by unfold uz zz; split <;> split <;> omega
def i64 (i:Int):Prop := -9223372036854775808<=i/\i<=9223372036854775807
theorem wF {i:Int} (h:i64 i):zz i<18446744073709551616:=by unfold i64 at h;unfold zz; split <;> omega
theorem aBw (x:Int):i64 (IntKind.i64.wrap x):=by rw [IntWalk.i64_left]; unfold wrap64 i64; omega
theorem aR9 {a:Nat} (h:a<18446744073709551616):wR .u64 (a:Int) 18446744073709551615=((18446744073709551615 - a:Nat):Int):=by show IntKind.u64.wrap (((BitVec.ofInt 64 (a:Int) ^^^ BitVec.allOnes 64).toNat:Nat):Int)=_;rw [eI,BitVec.xor_allOnes,aEt,BitVec.toNat_not,BitVec.toNat_ofNat,Nat.mod_eq_of_lt (show a<2 ^ 64 by omega)];omega
theorem bCe {i:Int} (h:i64 i):wR .u64 (IntKind.u64.wrap (uY .i64 i 1)) (IntKind.u64.wrap (oT .i64 i 63))=(zz i:Int):=by
 unfold i64 at h;have a:uY .i64 i 1=IntKind.i64.wrap (i * 2):=rfl;have b:oT .i64 i 63=if i<0 then -1 else 0:=by unfold oT;rw [show (63:Int).toNat=63 from rfl,show min 63 IntKind.i64.bits=63 from rfl,Int.fdiv_eq_ediv_of_nonneg _ (by decide)];split <;> omega
 rw [a,b];have c:IntKind.u64.wrap (IntKind.i64.wrap (i * 2))=(i * 2) % 18446744073709551616:=by rw [IntKind.wrap_u64,IntWalk.i64_left]; unfold wrap64; omega
 rw [c];unfold zz;by_cases hi:i<0
 ·rw [if_pos hi,if_pos hi,show IntKind.u64.wrap (-1)=18446744073709551615 from rfl];obtain⟨m,hm⟩:∃ m:Nat,(i * 2) % 18446744073709551616=(m:Int):=⟨((i * 2) % 18446744073709551616).toNat,by omega⟩;rw [hm,aR9 (by omega)];omega
 ·rw [if_neg hi,if_neg hi,show IntKind.u64.wrap 0=((0:Nat):Int) from rfl];obtain⟨m,hm⟩:∃ m:Nat,(i * 2) % 18446744073709551616=(m:Int):=⟨((i * 2) % 18446744073709551616).toNat,by omega⟩;rw [hm,aTb (by omega) (by omega),Nat.xor_zero];omega
theorem zF {i:Int} (h:i64 i) (a0:List Int) (hl:a0.length+10<=140737488355328):lG a0 i=some (a0++uv (zz i)):=by unfold lG;have:=aM (wF h);simp only [lt_,bCe h,sN _ a0 (wF h) (by omega),Option.bind_some]
theorem aEe (s:List UInt8) (a0:List Int) (hs:s.length<=9223372036854775807) (hl:a0.length+s.length+10<=140737488355328):nQ a0 s=some (a0++uv s.length++stb s):=by unfold nQ;have:=aM (n:=s.length) (by omega);rw [lt_,oM (by omega) (by omega),sN _ a0 (by omega) (by omega)];simp only [Option.bind_some];rw [bL (by simp; omega)]
def Bs (xs:List Int):Prop:=∀ b∈xs,0<=b/\b<256
theorem Bs.nil:Bs []:=λ_ h=>by cases h
theorem Bs.cons {b:Int} {xs:List Int} (h:Bs (b::xs)):(0<=b/\b<256)/\Bs xs:=⟨h b List.mem_cons_self,λc hc=>h c (List.mem_cons_of_mem _ hc)⟩
theorem Bs.mk {b:Int} {xs:List Int} (hb:0<=b/\b<256) (h:Bs xs):Bs (b::xs):=λc hc=>by
 rcases List.mem_cons.1 hc with rfl | hc
 ·exact hb
 ·exact h c hc
theorem Bs.app {xs ys:List Int} (h:Bs xs) (a:Bs ys):Bs (xs++ys):=λc hc=>(List.mem_append.1 hc).elim (h c) (a c)
theorem Bs.l {xs ys:List Int} (h:Bs (xs++ys)):Bs xs:=λc hc=>h c (List.mem_append.2 (.inl hc))
theorem Bs.r {xs ys:List Int} (h:Bs (xs++ys)):Bs ys:=λc hc=>h c (List.mem_append.2 (.inr hc))
theorem Bs.drop {xs:List Int} (h:Bs xs) (n:Nat):Bs (xs.drop n):=λc hc=>h c (List.mem_of_mem_drop hc)
theorem Bs.take {xs:List Int} (h:Bs xs) (n:Nat):Bs (xs.take n):=λc hc=>h c (List.mem_of_mem_take hc)
theorem Bs.uv (n:Nat):Bs (uv n):=by
 induction n using Nat.strongRecOn with
 | _ n ih =>
  by_cases hn:n<128
  ·rw [aB6 hn]; exact Bs.mk (by omega) Bs.nil
  ·rw [aBq hn]; exact Bs.mk (by omega) (ih _ (by omega))
theorem Bs.stb (s:List UInt8):Bs (stb s):=by intro c hc;unfold E.stb at hc;obtain⟨b,_,rfl⟩:=List.mem_map.1 hc;have:=b.toNat_lt;omega
def pB:List Int->Option (Int×List Int)
 | []=>none
 | b::r=>some (b,r)
def pV (i n:Nat):List Int->Option (Nat×List Int)
 | []=>none
 | b::r=>if i<9\/(i=9/\b<2) then
   (if b<128 then (if i=0\/0<b then some (n+b.toNat % 128 * 2 ^ (7 * i),r) else none) else pV (i+1) (n+b.toNat % 128 * 2 ^ (7 * i)) r)
  else none
def pU (most:Int) (xs:List Int):Option (Int×List Int):=match pV 0 0 xs with
 | some (n,r)=>if (n:Int)<=most then some ((n:Int),r) else none
 | none=>none
def pI (xs:List Int):Option (Int×List Int):=match pU 18446744073709551615 xs with
 | some (n,r)=>some (uz n.toNat,r)
 | none=>none
def pT (most:Int) (xs:List Int):Option (List UInt8×List Int):=match pU (IntKind.u64.wrap most) xs with
 | some (n,r)=>if n<=(r.length:Int) then some (bts (r.take n.toNat),r.drop n.toNat) else none
 | none=>none
def IsR {ρ:Type} (o:Option ((ρ×S140)⊕S140)) (p:Option (ρ×List Int)):Prop :=
 match p with
 | some (a,r)=>o=some (.inl (a,⟨r⟩))
 | none=>∃ s,o=some (.inr s)
theorem IsR.cases {ρ:Type} {o:Option ((ρ×S140)⊕S140)} {p:Option (ρ×List Int)} (h:IsR o p):(∃ a r,p=some (a,r)/\o=some (.inl (a,⟨r⟩)))\/(p=none/\∃ s,o=some (.inr s)):=by
 unfold IsR at h;split at h
 ·exact .inl ⟨_,_,rfl,h⟩
 ·exact .inr ⟨rfl,h⟩
theorem hJ {α β γ:Type} (a:α) (f:α->Option γ) (g:β->Option γ):fJ (.inl a) f g=f a:=rfl
theorem mL (s:S140):aI s true=some (.inl s):=rfl
theorem rZ (s:S140):aI s false=some (.inr s):=rfl
theorem aLc (xs:List Int):IsR (fW ⟨xs⟩) (pB xs):=by
 unfold fW;cases xs with
 | nil=>exact⟨_,rfl⟩
 | cons b r =>
  rw [show decide (0<(((⟨b::r⟩:S140).f0.length:Nat):Int))=true by simp,mL];simp only [Option.bind_some,hJ];have a:at_ (b::r) 0=some b:=rfl;have c:kO (b::r) 1 ((b::r).length:Int)=some r:=by have:=qK (xs:=b::r) (l:=1) (u:=(b::r).length) (by simp) (Nat.le_refl _);rw [show ((1:Nat):Int)=1 from rfl,List.take_length] at this;exact this
  rw [a];simp only [Option.bind_some];rw [c];rfl
theorem aU4 (a:Nat):a &&& 127=a % 128:=Nat.and_two_pow_sub_one_eq_mod a 7
theorem aW5:∀ (xs:List Int) (i n m:Nat) (r:List Int),n<2 ^ (7 * i)->n<18446744073709551616->pV i n xs=some (m,r)->m<18446744073709551616/\∃ p,xs=p++r/\0<p.length
 | [],i,n,m,r,_,_,h=>by cases h
 | b::xs,i,n,m,r,h1,h2,h=>by
  unfold pV at h;split at h
  ·rename_i hc;have a:n+b.toNat % 128 * 2 ^ (7 * i)<18446744073709551616/\n+b.toNat % 128 * 2 ^ (7 * i)<2 ^ (7 * (i+1)):=by
    have hp:2 ^ (7 * (i+1))=128 * 2 ^ (7 * i):=by rw [show 7 * (i+1)=7+7 * i by omega,Nat.pow_add]
    have hm:b.toNat % 128 * 2 ^ (7 * i)<=127 * 2 ^ (7 * i):=Nat.mul_le_mul_right _ (by omega);refine⟨?_,by rw [hp]; omega⟩;rcases hc with hc | ⟨hc,hb⟩
    ·have:2 ^ (7 * i)<=2 ^ 56:=Nat.pow_le_pow_right (by decide) (by omega);omega
    ·subst hc;have:b.toNat % 128 * 2 ^ (7 * 9)<=1 * 2 ^ (7 * 9):=Nat.mul_le_mul_right _ (by omega);omega
   split at h
   ·split at h
    ·cases h;exact⟨a.1,[b],rfl,by simp⟩
    ·cases h
   ·obtain⟨c,p,rfl,d⟩:=aW5 xs (i+1) _ m r a.2 a.1 h;exact⟨c,b::p,rfl,by simp⟩
  ·cases h
theorem aWs (most:Int):∀ (xs:List Int) (i n:Nat),Bs xs->i<=10->n<2 ^ (7 * i)->n<18446744073709551616 ->
  IsR (loop (λs:List Int×Int×Int=>eC most s.1 s.2.1 s.2.2) (xs,(n:Int),(i:Int))) (match pV i n xs with | some (m,r)=>if (m:Int)<=most then some ((m:Int),r) else none | none=>none)
 | [],i,n,hB,hi,h1,h2=>⟨⟨[]⟩,bK rfl⟩
 | b::xs,i,n,hB,hi,h1,h2=>by
  obtain⟨hb,u⟩:=hB.cons;generalize d:pV i n (b::xs)=pv;have p:fW ⟨b::xs⟩=some (.inl (b,⟨xs⟩)):=aLc (b::xs);obtain⟨c,rfl⟩:∃ c:Nat,b=(c:Int):=⟨b.toNat,by omega⟩;have v:(c:Int)<128\/128<=(c:Int):=by omega
  by_cases hc:i<9\/(i=9/\(c:Int)<2)
  ·
   have hp:2 ^ (7 * (i+1))=128 * 2 ^ (7 * i):=by rw [show 7 * (i+1)=7+7 * i by omega,Nat.pow_add]
   have hm:c % 128 * 2 ^ (7 * i)<=127 * 2 ^ (7 * i):=Nat.mul_le_mul_right _ (by omega);have l:c % 128 * 2 ^ (7 * i)<18446744073709551616/\n+c % 128 * 2 ^ (7 * i)<18446744073709551616:=by
    rcases hc with hc | ⟨hc,hb⟩
    ·have:2 ^ (7 * i)<=2 ^ 56:=Nat.pow_le_pow_right (by decide) (by omega);omega
    ·subst hc;have:c % 128 * 2 ^ (7 * 9)<=1 * 2 ^ (7 * 9):=Nat.mul_le_mul_right _ (by omega);omega
   have w:n+c % 128 * 2 ^ (7 * i)<2 ^ (7 * (i+1)):=by rw [hp]; omega
   obtain⟨m,h⟩:∃ m,m=n+c % 128 * 2 ^ (7 * i):=⟨_,rfl⟩;have x:aA3 .u8 (c:Int) 127=((c % 128:Nat):Int):=by have:=aWm (a:=c) (b:=127) (by omega) (by omega);rw [show ((127:Nat):Int)=127 from rfl] at this;rw [this,aU4]
   have y:IntKind.i64.wrap (7 * (i:Int))=((7 * i:Nat):Int):=by rw [w64 (by omega) (by omega)]; omega
   have z:uY .u64 ((c % 128:Nat):Int) ((7 * i:Nat):Int)=((c % 128 * 2 ^ (7 * i):Nat):Int):=by rw [aMa _ _ (by omega),Nat.mod_eq_of_lt l.1]
   have A:ior .u64 (n:Int) ((c % 128 * 2 ^ (7 * i):Nat):Int)=(m:Int):=by rw [aV1 h2 l.1,aAy h1,h]
   have j:eC most ((c:Int)::xs) (n:Int) (i:Int)=eA most (n:Int) (i:Int) ((c:Int),⟨xs⟩) xs:=by
    unfold eC;rw [p];simp only [Option.bind_some,hJ];rcases hc with hc | ⟨hc,B⟩
    ·rw [if_pos (by simp only [decide_eq_true_eq]; omega),mL]; rfl
    ·rw [if_neg (by simp only [decide_eq_true_eq]; omega),if_pos (by subst hc; rfl),show decide ((c:Int)<2)=true by simpa using B,mL]; rfl
   have f:eA most (n:Int) (i:Int) ((c:Int),⟨xs⟩) xs=if (c:Int)<128 then (if (m:Int)<=most/\(i=0\/0<(c:Int)) then some (.inr (.inl ((m:Int),⟨xs⟩))) else some (.inr (.inr ⟨xs⟩))) else some (.inl (xs,(m:Int),((i+1:Nat):Int))):=by
    unfold eA;simp only [lt_];rw [x,oM (by omega) (by omega),y,bL (by omega),z,A];by_cases g:(c:Int)<128
    ·rw [if_pos (by simpa using g),if_pos g];by_cases e:(m:Int)<=most
     ·rw [if_pos (by simpa using e)];by_cases o:i=0
      ·subst o;rw [if_pos (by rfl),mL,if_pos ⟨e,.inl rfl⟩];rfl
      ·rw [if_neg (by simpa using o)];by_cases k:0<(c:Int)
       ·rw [show decide (0<(c:Int))=true by simpa using k,mL,if_pos ⟨e,.inr k⟩]; rfl
       ·rw [show decide (0<(c:Int))=false by simpa using k,rZ,if_neg (by rintro⟨_,q | q⟩; exact o q; exact k q)]; rfl
     ·rw [if_neg (by simpa using e),rZ,if_neg (λq=>e q.1)]; rfl
    ·rw [if_neg (by simpa using g),if_neg g,w64 (by omega) (by omega)]; rfl
   rw [pV,if_pos hc,Int.toNat_natCast, ← h] at d;rcases v with g | g
   ·rw [if_pos g] at f d;by_cases h0:i=0\/0<(c:Int)
    ·rw [if_pos h0] at d;subst d;simp only;by_cases e:(m:Int)<=most
     ·rw [if_pos ⟨e,h0⟩] at f;rw [if_pos e];exact bK (j.trans f)
     ·rw [if_neg (λq=>e q.1)] at f;rw [if_neg e];exact⟨_,bK (j.trans f)⟩
    ·rw [if_neg h0] at d;subst d;rw [if_neg (λq=>h0 q.2)] at f;exact⟨_,bK (j.trans f)⟩
   ·rw [if_neg (Int.not_lt.2 g)] at f d;rw [cL (j.trans f)];subst d;exact aWs most xs (i+1) m u (by omega) (by rw [h]; exact w) (by rw [h]; exact l.2)
  ·rw [pV,if_neg hc] at d;subst d;refine⟨_,bK (t:=Sum.inr ⟨xs⟩) ?_⟩;show eC most ((c:Int)::xs) (n:Int) (i:Int)=_;unfold eC;rw [p];simp only [Option.bind_some,hJ];rw [if_neg (by simp only [decide_eq_true_eq]; omega)];by_cases C:i=9
   ·rw [if_pos (by subst C; rfl),show decide ((c:Int)<2)=false by simp; omega,rZ]; rfl
   ·rw [if_neg (by simp; omega),rZ]; rfl
theorem aCn (most:Int) {xs:List Int} (hB:Bs xs):IsR (bC ⟨xs⟩ most) (pU most xs):=by
 unfold bC pU;have:=aWs most xs 0 0 hB (by omega) (by simp) (by omega);simp only [Int.natCast_zero] at this;rcases this.cases with ⟨a,r,b,c⟩ | ⟨b,s,c⟩
 ·rw [b]; show _=_; rw [c]; rfl
 ·rw [b]; exact⟨s,by rw [c]; rfl⟩
theorem tA {most:Int} {xs r:List Int} {n:Int} (h:pU most xs=some (n,r)):(0<=n/\n<18446744073709551616/\n<=most)/\∃ p,xs=p++r/\0<p.length:=by
 unfold pU at h;split at h
 ·rename_i m r' he;split at h
  ·cases h;obtain⟨b,a⟩:=aW5 _ _ _ _ _ (by simp) (by omega) he;exact⟨⟨by omega,by omega,by assumption⟩,a⟩
  ·cases h
 ·cases h
theorem aMj {most:Int} {xs r:List Int} {n:Int} (hB:Bs xs) (h:pU most xs=some (n,r)):Bs r:=by obtain⟨_,p,rfl,_⟩:=tA h;exact hB.r
theorem aSt (a:Nat):a &&& 1=a % 2:=Nat.and_two_pow_sub_one_eq_mod a 1
theorem aZp {a:Nat} (h:a<9223372036854775808):wR .i64 (a:Int) (-1) = -(a:Int) - 1:=by show IntKind.i64.wrap (((BitVec.ofInt 64 (a:Int) ^^^ BitVec.allOnes 64).toNat:Nat):Int)=_;rw [eI,BitVec.xor_allOnes,BitVec.toNat_not,BitVec.toNat_ofNat,Nat.mod_eq_of_lt (show a<2 ^ 64 by omega),IntWalk.i64_left];unfold wrap64;omega
theorem bCj {a:Nat} (h:a<9223372036854775808):wR .i64 (a:Int) 0=(a:Int):=by show IntKind.i64.wrap (((BitVec.ofInt 64 (a:Int) ^^^ 0#64).toNat:Nat):Int)=_;rw [eI,BitVec.xor_zero,BitVec.toNat_ofNat,Nat.mod_eq_of_lt (show a<2 ^ 64 by omega),w64 (by omega) (by omega)]
theorem bC4 {n:Nat} (h:n<18446744073709551616):wR .i64 (IntKind.i64.wrap (oT .u64 (n:Int) 1)) (IntKind.i64.wrap (0 - IntKind.i64.wrap (aA3 .u64 (n:Int) 1)))=uz n:=by
 have d:oT .u64 (n:Int) 1=((n / 2:Nat):Int):=mD (k:=.u64) n 1 (by decide);have e:aA3 .u64 (n:Int) 1=((n % 2:Nat):Int):=by have:=aId (a:=n) (b:=1) h (by omega);rw [show ((1:Nat):Int)=1 from rfl] at this;rw [this,aSt]
 rw [d,e,w64 (n:=((n / 2:Nat):Int)) (by omega) (by omega),w64 (n:=((n % 2:Nat):Int)) (by omega) (by omega),w64 (by omega) (by omega)];unfold uz;by_cases c:n % 2=1
 ·rw [if_pos c,c,show (0:Int) - ((1:Nat):Int) = -1 from rfl,aZp (by omega)]
 ·rw [if_neg c,show n % 2=0 by omega,show (0:Int) - ((0:Nat):Int)=0 from rfl,bCj (by omega)]
theorem aH2 {xs:List Int} (hB:Bs xs):IsR (cV ⟨xs⟩) (pI xs):=by
 unfold cV pI;rcases (aCn 18446744073709551615 hB).cases with ⟨a,r,b,c⟩ | ⟨b,s,c⟩
 ·rw [b,c];obtain⟨⟨d,e,_⟩,_⟩:=tA b;simp only [Option.bind_some,hJ,lt_];have:=bC4 (n:=a.toNat) (by omega);rw [show ((a.toNat:Nat):Int)=a by omega] at this;show _=_;rw [this]
 ·rw [b,c];exact⟨s,rfl⟩
theorem aP7 {xs r:List Int} {n:Int} (hB:Bs xs) (h:pI xs=some (n,r)):Bs r/\i64 n/\∃ p,xs=p++r/\0<p.length:=by
 unfold pI at h;split at h
 ·rename_i m r' he;cases h;refine⟨aMj hB he,?_,(tA he).2⟩;have:=(tA he).1;unfold i64 uz;split <;> omega
 ·cases h
theorem aLl (most:Int) {xs:List Int} (hB:Bs xs) (hl:xs.length<9223372036854775808):IsR (eZ ⟨xs⟩ most) (pT most xs):=by
 unfold eZ pT;rw [lt_];rcases (aCn (IntKind.u64.wrap most) hB).cases with ⟨a,r,b,c⟩ | ⟨b,s,c⟩
 ·rw [b,c];obtain⟨⟨d,e,_⟩,p,hp,_⟩:=tA b;have hr:r.length<=xs.length:=by rw [hp]; simp
  simp only [Option.bind_some,hJ,lt_];rw [oM (by omega) (by omega)];obtain⟨n,rfl⟩:∃ n:Nat,a=(n:Int):=⟨a.toNat,by omega⟩;by_cases hn:(n:Int)<=(r.length:Int)
  ·rw [show decide ((n:Int)<=(r.length:Int))=true by simpa using hn,mL,if_pos hn];simp only [Option.bind_some,hJ];have c1:=qK (xs:=r) (l:=0) (u:=n) (by omega) (by omega);have c2:=qK (xs:=r) (l:=n) (u:=r.length) (by omega) (by omega);rw [show ((0:Nat):Int)=0 from rfl,List.drop_zero] at c1;rw [List.take_length] at c2;rw [c1];simp only [Option.bind_some];rw [c2];rfl
  ·rw [show decide ((n:Int)<=(r.length:Int))=false by simpa using hn,rZ,if_neg hn];exact⟨_,rfl⟩
 ·rw [b,c];exact⟨s,rfl⟩
theorem aX5:∀ (k:Nat) (m i n:Nat) (r:List Int),m<128 ^ (k+1)->k+i<=9->m * 2 ^ (7 * i)+n<18446744073709551616->(0<i->0<m)->pV i n (uv m++r)=some (n+m * 2 ^ (7 * i),r)
 | k,m,i,n,r,h,hi,hlt,h0=>by
  by_cases hm:m<128
  ·rw [aB6 hm,List.singleton_append,pV];have b:i<9\/(i=9/\(m:Int)<2):=by
    rcases Nat.lt_or_ge i 9 with q | q
    ·exact .inl q
    ·have:i=9:=by omega
     subst this;refine .inr ⟨rfl,?_⟩;rcases Nat.lt_or_ge m 2 with a | a
     ·omega
     ·have:2 * 2 ^ (7 * 9)<=m * 2 ^ (7 * 9):=Nat.mul_le_mul_right _ a;omega
   rw [if_pos b,if_pos (by omega),if_pos (by rcases Nat.eq_zero_or_pos i with q | q; exact .inl q; have:=h0 q; exact .inr (by omega)),Int.toNat_natCast,Nat.mod_eq_of_lt hm]
  ·rw [aBq hm,List.cons_append,pV]
   match k,h,hi with
   | 0,h,_=>exact absurd (by simpa using h) hm
   | k+1,h,hi =>
    rw [if_pos (.inl (by omega)),if_neg (by omega),Int.toNat_natCast,show (m % 128+128) % 128=m % 128 by omega];have hp:2 ^ (7 * (i+1))=128 * 2 ^ (7 * i):=by rw [show 7 * (i+1)=7+7 * i by omega,Nat.pow_add]
    have c:m / 128 * (128 * 2 ^ (7 * i))+m % 128 * 2 ^ (7 * i)=m * 2 ^ (7 * i):=by rw [← Nat.mul_assoc, ← Nat.add_mul];congr 1;omega
    rw [aX5 k (m / 128) (i+1) _ r (by rw [Nat.pow_succ] at h; exact Nat.div_lt_of_lt_mul (by rw [Nat.mul_comm]; exact h)) (by omega) (by rw [hp]; omega) (λ_=>by omega),hp];congr 2;omega
theorem aH3 {m:Nat} (h:m<18446744073709551616) (r:List Int) {most:Int} (hm:(m:Int)<=most):pU most (uv m++r)=some ((m:Int),r):=by unfold pU;rw [aX5 9 m 0 0 r (by omega) (by omega) (by simp; omega) (λq=>absurd q (by omega))];simp only [Nat.mul_zero,Nat.pow_zero,Nat.mul_one,Nat.zero_add];rw [if_pos hm]
theorem aM8 {x:Int} (h:i64 x) (r:List Int):pI (uv (zz x)++r)=some (x,r):=by unfold pI;have:=wF h;rw [aH3 this r (by omega)];simp only [Int.toNat_natCast,bA1]
def bl (n:Nat):Nat:=if h:n=0 then 0 else bl (n / 2)+1
termination_by n
decreasing_by omega
theorem aEo:bl 0=0:=by rw [bl,dif_pos rfl]
theorem aLh {n:Nat} (h:0<n):bl n=bl (n / 2)+1:=by rw [bl,dif_neg (by omega)]
theorem bC1 (n:Nat):n<2 ^ bl n:=by
 induction n using Nat.strongRecOn with
 | _ n ih =>
  rcases Nat.eq_zero_or_pos n with rfl | h
  ·rw [aEo]; decide
  ·rw [aLh h,Nat.pow_succ];have:=ih (n / 2) (by omega);omega
theorem aX4:∀ (k n:Nat),n<2 ^ k->bl n<=k
 | 0,n,h=>by
  have:n=0:=by simpa using h
  rw [this,aEo]; exact Nat.le_refl _
 | k+1,n,h=>by
  rcases Nat.eq_zero_or_pos n with rfl | hp
  ·rw [aEo]; omega
  ·rw [aLh hp];have:=aX4 k (n / 2) (by rw [Nat.pow_succ] at h; omega);omega
theorem aCa:∀ (k n:Nat),2 ^ k<=n->bl n=k+bl (n / 2 ^ k)
 | 0,n,_=>by simp
 | k+1,n,h=>by have hp:0<2 ^ k:=Nat.two_pow_pos k;rw [Nat.pow_succ] at h;rw [aLh (by omega),aCa k (n / 2) (by omega),Nat.div_div_eq_div_mul,Nat.pow_succ,Nat.mul_comm (2 ^ k) 2];omega
def V (w:Nat):List Nat->Nat
 | []=>0
 | d::ds=>d+2 ^ w * V w ds
def Lt (w:Nat) (ds:List Nat):Prop:=∀ d∈ds,d<2 ^ w
theorem Lt.tail {w d:Nat} {ds:List Nat} (h:Lt w (d::ds)):d<2 ^ w/\Lt w ds:=⟨h d List.mem_cons_self,λx hx=>h x (List.mem_cons_of_mem _ hx)⟩
theorem aVn {w:Nat}:∀ {ds:List Nat},Lt w ds->V w ds<2 ^ (ds.length * w)
 | [],_=>by simp [V]
 | d::ds,h=>by
  have b:=h.tail.1;have a:=aVn h.tail.2;simp only [V,List.length_cons];rw [Nat.add_mul,Nat.one_mul,Nat.pow_add,Nat.mul_comm (2 ^ (ds.length * w))];have:2 ^ w * V w ds+2 ^ w<=2 ^ w * 2 ^ (ds.length * w):=by rw [← Nat.mul_succ]; exact Nat.mul_le_mul_left _ a
  omega
theorem aSj {w:Nat}:∀ {ds:List Nat},Lt w ds->∀ i,V w ds / 2 ^ (i * w)=V w (ds.drop i)
 | ds,_,0=>by simp
 | [],_,i+1=>by simp [V]
 | d::ds,h,i+1=>by rw [List.drop_succ_cons, ← aSj h.tail.2 i,Nat.add_mul,Nat.one_mul,Nat.add_comm (i * w),Nat.pow_add, ← Nat.div_div_eq_div_mul];congr 1;simp only [V];rw [Nat.add_mul_div_left _ _ (Nat.two_pow_pos w),Nat.div_eq_of_lt h.tail.1,Nat.zero_add]
theorem aXg {w:Nat} {ds:List Nat} (h:Lt w ds) {i d:Nat} (hd:ds[i]?=some d):V w ds / 2 ^ (i * w) % 2 ^ w=d:=by rw [aSj h,List.drop_eq_getElem_cons (List.getElem?_eq_some_iff.1 hd).1,(List.getElem?_eq_some_iff.1 hd).2,V,Nat.add_mul_mod_self_left];exact Nat.mod_eq_of_lt (h d (List.mem_of_getElem? hd))
def by_ (m v:Nat):List Nat:=(List.range m).map λj=>v / 2 ^ (8 * j) % 256
theorem tO (m v:Nat):(by_ m v).length=m:=by simp [by_]
theorem aIa {m v j:Nat} (h:j<m):(by_ m v)[j]?=some (v / 2 ^ (8 * j) % 256):=by unfold by_;rw [List.getElem?_map,List.getElem?_range h]; rfl
theorem bA5 (m v:Nat):Lt 8 (by_ m v):=by intro d hd;unfold by_ at hd;obtain⟨j,_,rfl⟩:=List.mem_map.1 hd;exact Nat.mod_lt _ (by decide)
theorem aSd {xs ys:List Nat} (hl:xs.length=ys.length) (h:∀ j:Nat,j<xs.length->xs[j]?=ys[j]?):xs=ys:=by
 apply List.ext_getElem? λj=>?_;rcases Nat.lt_or_ge j xs.length with a | a
 ·exact h j a
 ·rw [List.getElem?_eq_none a,List.getElem?_eq_none (by omega)]
theorem bBo:∀ (m v:Nat),v<2 ^ (8 * m)->V 8 (by_ m v)=v
 | 0,v,h=>by
  have:v=0:=by simpa using h
  subst this; rfl
 | m+1,v,h=>by
  have e:by_ (m+1) v=v % 256::by_ m (v / 256):=by
   refine aSd (by simp [tO]) λj a=>?_;rw [tO] at a;rw [aIa a];cases j with
   | zero=>simp
   | succ j =>
    rw [List.getElem?_cons_succ,aIa (by omega),show 8 * (j+1)=8+8 * j by omega,Nat.pow_add,Nat.div_div_eq_div_mul]
  rw [e,V,bBo m (v / 256) (by rw [show 8 * (m+1)=8+8 * m by omega,Nat.pow_add] at h; exact Nat.div_lt_of_lt_mul h)];exact Nat.mod_add_div v 256
def bt (v i:Nat):Nat:=v / 2 ^ i % 2
theorem aO7 (v i:Nat):bt v i<2:=Nat.mod_lt _ (by decide)
theorem aIs (v i:Nat):v % 2 ^ (i+1)=v % 2 ^ i+bt v i * 2 ^ i:=by rw [Nat.pow_succ,Nat.mod_mul,bt,Nat.mul_comm]
theorem bCr {w:Nat} {ds:List Nat} (h:Lt w ds) {i k d:Nat} (hd:ds[i]?=some d) (hk:k<w):bt (V w ds) (i * w+k)=bt d k:=by
 unfold bt;have hm:=aXg h hd;rw [Nat.pow_add, ← Nat.div_div_eq_div_mul]
 conv=>rhs; rw [← hm]
 obtain⟨x,hx⟩:∃ x,x=V w ds / 2 ^ (i * w):=⟨_,rfl⟩;rw [← hx];obtain⟨j,rfl⟩:∃ j,w=k+(j+1):=⟨w - k - 1,by omega⟩;rw [Nat.pow_add,Nat.mod_mul_right_div_self,Nat.pow_succ,Nat.mul_comm (2 ^ j) 2,Nat.mod_mul_right_mod]
theorem aJu (v i q w:Nat) (hw:0<w) (f:q≠i / w):v % 2 ^ (i+1) / 2 ^ (q * w) % 2 ^ w=v % 2 ^ i / 2 ^ (q * w) % 2 ^ w:=by
 rw [aIs];rcases Nat.lt_or_ge (i / w) q with a | g
 ·
  have b:(i / w+1) * w<=q * w:=Nat.mul_le_mul_right _ a;have c:i<(i / w+1) * w:=by have h:=Nat.div_add_mod i w; have k:=Nat.mod_lt i hw; rw [Nat.add_mul,Nat.one_mul,Nat.mul_comm (i / w)]; omega
  have d:2 ^ (i+1)<=2 ^ (q * w):=Nat.pow_le_pow_right (by decide) (by omega);have l:v % 2 ^ i<2 ^ i:=Nat.mod_lt _ (Nat.two_pow_pos i);have m:=aO7 v i;have n:bt v i * 2 ^ i<=1 * 2 ^ i:=Nat.mul_le_mul_right _ (by omega);rw [Nat.pow_succ] at d;rw [Nat.div_eq_of_lt (by omega),Nat.div_eq_of_lt (by omega)]
 ·
  have a:q<i / w:=by omega
  have b:(q+1) * w<=i / w * w:=Nat.mul_le_mul_right _ a;have c:i / w * w<=i:=Nat.div_mul_le_self i w;obtain⟨j,rfl⟩:∃ j,i=q * w+w+j:=⟨i - (q * w+w),by rw [Nat.add_mul] at b; omega⟩;have e:bt v (q * w+w+j) * 2 ^ (q * w+w+j)=2 ^ (q * w) * (2 ^ w * (2 ^ j * bt v (q * w+w+j))):=by rw [Nat.pow_add,Nat.pow_add]; ac_rfl
  rw [e,Nat.add_mul_div_left _ _ (Nat.two_pow_pos _),Nat.add_mul_mod_self_left]
theorem aEk (v i w:Nat) (hw:0<w):v % 2 ^ (i+1) / 2 ^ (i / w * w) % 2 ^ w=v % 2 ^ i / 2 ^ (i / w * w) % 2 ^ w+bt v i * 2 ^ (i % w)/\v % 2 ^ i / 2 ^ (i / w * w) % 2 ^ w<2 ^ (i % w):=by
 obtain⟨q,a⟩:∃ q,q=i / w * w:=⟨_,rfl⟩;obtain⟨k,hk⟩:∃ k,k=i % w:=⟨_,rfl⟩;have hi:i=q+k:=by rw [a,hk,Nat.mul_comm]; exact (Nat.div_add_mod i w).symm
 have b:k<w:=by rw [hk]; exact Nat.mod_lt _ hw
 rw [← a, ← hk,aIs,hi];have c:v % 2 ^ (q+k) / 2 ^ q<2 ^ k:=Nat.div_lt_of_lt_mul (by rw [← Nat.pow_add]; exact Nat.mod_lt _ (Nat.two_pow_pos _));have d:2 ^ (k+1)<=2 ^ w:=Nat.pow_le_pow_right (by decide) b;rw [Nat.pow_succ] at d;have hb:=aO7 v (q+k);have f:bt v (q+k) * 2 ^ k<=1 * 2 ^ k:=Nat.mul_le_mul_right _ (by omega);have e:bt v (q+k) * 2 ^ (q+k)=2 ^ q * (bt v (q+k) * 2 ^ k):=by rw [Nat.pow_add, ← Nat.mul_assoc, ← Nat.mul_assoc,Nat.mul_comm (bt v (q+k))]
 rw [e,Nat.add_mul_div_left _ _ (Nat.two_pow_pos q),Nat.mod_eq_of_lt (show v % 2 ^ (q+k) / 2 ^ q+bt v (q+k) * 2 ^ k<2 ^ w by omega),Nat.mod_eq_of_lt (show v % 2 ^ (q+k) / 2 ^ q<2 ^ w by omega)];exact⟨rfl,c⟩
def b0 (l:List Int):List Int:=(l.map λx=>uv (zz x)).flatten
def aA6:Int->List Int->Int
 | a,[]=>a
 | _,x::l=>aA6 x l
def bD:Int->List Int->List Int
 | _,[]=>[]
 | a,x::l=>uv (zz (IntKind.i64.wrap (x - a)))++bD x l
def bR:Nat->List Int->List Int
 | _,[]=>[]
 | k,[x]=>uv (zz x)++uv k
 | k,x::y::l=>if y=x then bR (k+1) (y::l) else uv (zz x)++uv k++bR 0 (y::l)
def mn:Int->List Int->Int
 | m,[]=>m
 | m,x::l=>mn (if x<m then x else m) l
def ds (lo:Int) (l:List Int):List Nat:=l.map λx=>(x - lo).toNat
def wdt (D:List Nat):Nat:=D.foldl (λw d=>if w<bl d then bl d else w) 0
def ofN (l:List Nat):List Int:=l.map λ(n:Nat)=>(n:Int)
def pk:List Int->List Int
 | []=>[]
 | x::l=>uv (zz (mn x l))++[(wdt (ds (mn x l) (x::l)):Int)]++ofN (by_ (((x::l).length * wdt (ds (mn x l) (x::l))+7) / 8) (V (wdt (ds (mn x l) (x::l))) (ds (mn x l) (x::l))))
def body:Nat->List Int->List Int
 | 0,l=>b0 l
 | 1,l=>bD 0 l
 | 2,l=>bR 0 l
 | _,l=>pk l
def asL (w:Nat) (l:List Int):List Int:=(w:Int)::(uv l.length++body w l)
def I64 (l:List Int):Prop:=∀ x∈l,i64 x
theorem I64.get {l:List Int} (h:I64 l) {i:Nat} {x:Int} (hx:l[i]?=some x):i64 x:=h x (List.mem_of_getElem? hx)
theorem aLr:∀ {l:List Int},I64 l->(b0 l).length<=10 * l.length
 | [],_=>by simp [b0]
 | x::l,h=>by have c:=aM (wF (h x List.mem_cons_self));have a:=aLr (l:=l) λy b=>h y (List.mem_cons_of_mem _ b);simp only [b0,List.map_cons,List.flatten_cons,List.length_append,List.length_cons] at a ⊢;omega
theorem aNt:∀ (l:List Int) (a:Int),(bD a l).length<=10 * l.length
 | [],_=>by simp [bD]
 | x::l,a=>by have b:=aM (wF (aBw (x - a)));have c:=aNt l x;simp only [bD,List.length_append,List.length_cons];omega
theorem aNx:∀ (l:List Int) (k:Nat),I64 l->k+l.length<18446744073709551616->(bR k l).length<=20 * l.length
 | [],_,_,_=>by simp [bR]
 | [x],k,h,hk=>by have b:=aM (wF (h x List.mem_cons_self));have c:=aM (n:=k) (by simp at hk; omega);simp only [bR,List.length_append,List.length_cons,List.length_nil];omega
 | x::y::l,k,h,hk=>by
  have b:=aM (wF (h x List.mem_cons_self));simp only [List.length_cons] at hk;have c:=aM (n:=k) (by omega);have a:I64 (y::l):=λz hz=>h z (List.mem_cons_of_mem _ hz);unfold bR;split
  ·have:=aNx (y::l) (k+1) a (by simp only [List.length_cons]; omega);simp only [List.length_cons] at this ⊢;omega
  ·have:=aNx (y::l) 0 a (by simp only [List.length_cons]; omega);simp only [List.length_append,List.length_cons] at this ⊢;omega
theorem aUy (l:List Int) (x:Int):b0 (l++[x])=b0 l++uv (zz x):=by simp [b0]
theorem aPr:∀ (l:List Int) (a x:Int),bD a (l++[x])=bD a l++uv (zz (IntKind.i64.wrap (x - aA6 a l)))
 | [],a,x=>by simp [bD,aA6]
 | y::l,a,x=>by simp [bD,aA6,aPr l y x]
theorem aFu:∀ (l:List Int) (a x:Int),aA6 a (l++[x])=x
 | [],a,x=>rfl
 | y::l,a,x=>aFu l y x
theorem tP {l:List Int} {k:Nat} {x:Int} (h:l[k]?=some x):l.take (k+1)=l.take k++[x]:=by rw [List.take_add_one,h]; rfl
theorem I64.take {l:List Int} (h:I64 l) (k:Nat):I64 (l.take k):=λx hx=>h x (List.mem_of_mem_take hx)
section
variable {l pre:List Int} (hl:l.length<=4096) (hi:I64 l) (hp:pre.length<=20)
include hl hi hp
theorem bDt:loop (λs:List Int×Int=>lO l s.1 s.2) (pre,0)=some (pre++b0 l):=by
 have:=kC (b:=λs:List Int×Int=>lO l s.1 s.2) (λk=>(pre++b0 (l.take k),(k:Int))) (t:=pre++b0 l) l.length (λk hk=>by
  have hx:=List.getElem?_eq_getElem hk;have hlen:=aLr (hi.take k);rw [List.length_take] at hlen;show lO l (pre++b0 (l.take k)) (k:Int)=_;unfold lO;rw [if_pos (by simp only [decide_eq_true_eq]; omega),bE rfl hx];simp only [Option.bind_some];rw [zF (hi.get hx) _ (by simp only [List.length_append]; omega)];simp only [Option.bind_some,lt_];rw [w64 (by omega) (by omega),tP hx,aUy,List.append_assoc];rfl) (by
  show lO l (pre++b0 (l.take l.length)) (l.length:Int)=_;unfold lO;rw [if_neg (by simp),List.take_length])
 simpa [b0] using this
omit hi in
theorem bDp:loop (λs:List Int×Int×Int=>lM l s.1 s.2.1 s.2.2) (pre,0,0)=some (pre++bD 0 l):=by
 have:=kC (b:=λs:List Int×Int×Int=>lM l s.1 s.2.1 s.2.2) (λk=>(pre++bD 0 (l.take k),aA6 0 (l.take k),(k:Int))) (t:=pre++bD 0 l) l.length (λk hk=>by
  have hx:=List.getElem?_eq_getElem hk;have hlen:=aNt (l.take k) 0;rw [List.length_take] at hlen;show lM l (pre++bD 0 (l.take k)) (aA6 0 (l.take k)) (k:Int)=_;unfold lM;rw [if_pos (by simp only [decide_eq_true_eq]; omega),bE rfl hx];simp only [Option.bind_some,lt_];rw [zF (aBw _) _ (by simp only [List.length_append]; omega)];simp only [Option.bind_some];rw [w64 (n:=(k:Int)+1) (by omega) (by omega),tP hx,aPr,aFu,List.append_assoc];rfl) (by
  show lM l (pre++bD 0 (l.take l.length)) (aA6 0 (l.take l.length)) (l.length:Int)=_;unfold lM;rw [if_neg (by simp),List.take_length])
 simpa [bD,aA6] using this
end
theorem aFh (x:Int):∀ rest:List Int,∃ (m:Nat) (tl:List Int),rest=List.replicate m x++tl/\∀ y,tl[0]?=some y->y≠x
 | []=>⟨0,[],rfl,by simp⟩
 | y::rest=>by
  by_cases h:y=x
  ·obtain⟨m,tl,a,b⟩:=aFh x rest;exact⟨m+1,tl,by rw [h,a]; rfl,b⟩
  ·exact⟨0,y::rest,rfl,λz hz=>by cases hz; exact h⟩
theorem aN7 (x:Int) (tl:List Int) (h:∀ y,tl[0]?=some y->y≠x):∀ (m k:Nat),bR k (x::(List.replicate m x++tl))=uv (zz x)++uv (k+m)++bR 0 tl
 | 0,k=>by
  cases tl with
  | nil=>simp [bR]
  | cons y tl =>
   have:=h y rfl;simp only [List.replicate_zero,List.nil_append,bR,if_neg this,Nat.add_zero]
 | m+1,k=>by rw [List.replicate_succ,List.cons_append,bR,if_pos rfl,aN7 x tl h m (k+1),show k+1+m=k+(m+1) by omega]
section
variable {l pre:List Int} (hl:l.length<=4096) (hi:I64 l) (hp:pre.length<=20)
include hl hi hp
theorem bEp:loop (λs:List Int×Int=>mZ l s.1 s.2) (pre,0)=some (pre++bR 0 l):=by
 obtain⟨t,ht,rfl⟩:=aCh (b:=λs:List Int×Int=>mZ l s.1 s.2) (s:=(pre,0))
  (λs=>∃ i:Nat,s.2=i/\i<=l.length/\s.1.length<=20+20 * i/\s.1++bR 0 (l.drop i)=pre++bR 0 l)
  (λs=>((l.length:Int) - s.2).toNat) (λt=>t=pre++bR 0 l) ⟨0,rfl,by omega,by simpa using hp,by simp⟩ (by
   rintro⟨acc,q⟩ ⟨i,d,u,j,a⟩;simp only at d j a;subst d;show (∃ s',mZ l acc (i:Int)=some (.inl s')/\_)\/∃ t,mZ l acc (i:Int)=some (.inr t)/\_;unfold mZ;by_cases e:i<l.length
   ·rw [if_pos (by simp only [decide_eq_true_eq]; omega)];have hx:=List.getElem?_eq_getElem e;obtain⟨x,f⟩:∃ x,x=l[i]:=⟨_,rfl⟩;rw [← f] at hx;have hd:l.drop i=x::l.drop (i+1):=by rw [List.drop_eq_getElem_cons e, ← f]
    obtain⟨m,tl,hm,g⟩:=aFh x (l.drop (i+1));have hlen:l.length=i+1+m+tl.length:=by have:=congrArg List.length hm;simp only [List.length_drop,List.length_append,List.length_replicate] at this;omega
    have o:∀ k,k<m->l[i+1+k]?=some x:=by
     intro k hk;have:(l.drop (i+1))[k]?=some x:=by rw [hm,List.getElem?_append_left (by simpa using hk)]; simp [hk]
     rwa [List.getElem?_drop] at this
    have h:l.drop (i+1+m)=tl:=by rw [← List.drop_drop,hm];exact List.drop_left' (by simp)
    
    have p:=kC (b:=λs:Int=>nL l (i:Int) s) (λk=>((k+1:Nat):Int)) (t:=((m+1:Nat):Int)) m (λk hk=>by
     show nL l (i:Int) ((k+1:Nat):Int)=_;unfold nL;rw [lt_,w64 (by omega) (by omega),if_pos (by simp only [decide_eq_true_eq]; omega),bE (n:=i+1+k) (by omega) (o k hk),bE rfl hx];simp only [Option.bind_some];unfold pE;rw [if_pos (by simp),lt_,w64 (by omega) (by omega)];rfl) (by
     show nL l (i:Int) ((m+1:Nat):Int)=_;unfold nL;rw [lt_,w64 (by omega) (by omega)];by_cases v:tl.length=0
     ·rw [if_neg (by simp only [decide_eq_true_eq]; omega)];unfold pE;rw [if_neg (by simp)]
     ·obtain⟨y,c⟩:∃ y,tl[0]?=some y:=⟨_,List.getElem?_eq_getElem (by omega)⟩;have r:l[i+1+m]?=some y:=by rw [← h,List.getElem?_drop] at c; exact c
      rw [if_pos (by simp only [decide_eq_true_eq]; omega),bE (n:=i+1+m) (by omega) r,bE rfl hx];simp only [Option.bind_some];unfold pE;rw [if_neg (by simpa using g y c)])
    rw [show (1:Int)=((0+1:Nat):Int) from rfl,p];simp only [Option.bind_some];unfold uU xH;have hz:=aM (wF (hi.get hx));have w:=aM (n:=m) (by omega);rw [bE rfl hx];simp only [Option.bind_some];rw [zF (hi.get hx) _ (by omega)];simp only [Option.bind_some,lt_];rw [w64 (n:=((m+1:Nat):Int) - 1) (by omega) (by omega),show ((m+1:Nat):Int) - 1=(m:Int) by omega,oM (by omega) (by omega),sN m _ (by omega) (by simp only [List.length_append]; omega)];simp only [Option.bind_some];rw [w64 (by omega) (by omega)];refine .inl ⟨_,rfl,⟨i+1+m,?_,by omega,?_,?_⟩,?_⟩
    ·simp only; omega
    ·simp only [List.length_append]; omega
    ·rw [h, ← a,hd,hm,aN7 x tl g m 0];simp
    ·simp only; omega
   ·rw [if_neg (by simp only [decide_eq_true_eq]; omega)];refine .inr ⟨_,rfl,?_⟩;rw [← a,show i=l.length by omega,List.drop_length];simp [bR])
 exact ht
end
theorem aF4 {k m:Nat} (a:2 ^ k<=m) (b:m<2 ^ (k+1)):bl m=k+1:=by
 have e:m / 2 ^ k=1:=by rw [Nat.pow_succ] at b;have:=(Nat.le_div_iff_mul_le (Nat.two_pow_pos k)).2 (show 1 * 2 ^ k<=m by omega);have:=(Nat.div_lt_iff_lt_mul (Nat.two_pow_pos k)).2 (show m<2 * 2 ^ k by omega);omega
 rw [aCa k m a,e,aLh (by decide),show 1 / 2=0 from rfl,aEo]
def aJo (m:Nat):Nat:=if m<1 then 0 else if m<2 then 1 else if m<4 then 2 else if m<8 then 3 else if m<16 then 4 else if m<32 then 5 else if m<64 then 6 else if m<128 then 7 else 8
theorem aUk {m:Nat} (h:m<256):bl m=aJo m:=by
 unfold aJo
 repeat' split
 ·rw [show m=0 by omega,aEo]
 ·exact aF4 (k:=0) (by omega) (by omega)
 ·exact aF4 (k:=1) (by omega) (by omega)
 ·exact aF4 (k:=2) (by omega) (by omega)
 ·exact aF4 (k:=3) (by omega) (by omega)
 ·exact aF4 (k:=4) (by omega) (by omega)
 ·exact aF4 (k:=5) (by omega) (by omega)
 ·exact aF4 (k:=6) (by omega) (by omega)
 ·exact aF4 (k:=7) (by omega) (by omega)
set_option maxRecDepth 100000 in
theorem aX2 {m:Nat} (h:m<256) (a:Int) (f:0<=a) (g:a<=64):pS (m:Int) a=some (a+(bl m:Int)):=by
 unfold pS;rw [lt_,u8w (by omega) (by omega),aOl];have key:∀ tb:List UInt8,(∀ i:Fin 256,(tb[i.val]?).map (λb:UInt8=>b.toNat)=some (aJo i.val))->((tb[m]?).bind λc=>(ltt (IntKind.i64.wrap (c.toNat:Int)) λd=>(ltt (IntKind.i64.wrap (a+d)) λe=>(some e))))=some (a+(bl m:Int)):=by
  intro tb ht;have:=ht ⟨m,h⟩;simp only [Option.map_eq_some_iff] at this;obtain⟨b,hb,hs⟩:=this;rw [hb];have:aJo m<=8:=by unfold aJo; (repeat' split) <;> omega
  simp only [Option.bind_some,lt_];rw [hs,w64 (n:=((aJo m:Nat):Int)) (by omega) (by omega),w64 (by omega) (by omega),aUk h]
 exact key _ (by decide +kernel)
theorem sh {n k:Nat} (hk:k<=64):oT .u64 (n:Int) (k:Int)=((n / 2 ^ k:Nat):Int):=mD (k:=.u64) n k hk
theorem aZu {n:Nat} (h:n<18446744073709551616):yQ (n:Int)=some (bl n:Int):=by
 have b:∀ (m a:Nat),m<65536->a<=56->pW (m:Int) (a:Int)=some ((a:Int)+(bl m:Int)):=by
  intro m a hm d;unfold pW;by_cases hc:256<=m
  ·rw [if_pos (by simp only [decide_eq_true_eq]; omega),lt_,lt_];have e:=sh (n:=m) (k:=8) (by omega);rw [show ((8:Nat):Int)=8 from rfl] at e;rw [e,w64 (by omega) (by omega),aX2 (by omega) _ (by omega) (by omega),aCa 8 m (by omega)];congr 1;omega
  ·rw [if_neg (by simp only [decide_eq_true_eq]; omega),aX2 (by omega) _ (by omega) (by omega)]
 have c:∀ (m a:Nat),m<4294967296->a<=32->pY (m:Int) (a:Int)=some ((a:Int)+(bl m:Int)):=by
  intro m a hm d;unfold pY;by_cases hc:65536<=m
  ·rw [if_pos (by simp only [decide_eq_true_eq]; omega),lt_,lt_];have e:=sh (n:=m) (k:=16) (by omega);rw [show ((16:Nat):Int)=16 from rfl] at e;rw [e,w64 (by omega) (by omega),show (a:Int)+16=((a+16:Nat):Int) by omega,b _ _ (by omega) (by omega),aCa 16 m (by omega)];congr 1;omega
  ·rw [if_neg (by simp only [decide_eq_true_eq]; omega),b _ _ (by omega) (by omega)]
 unfold yQ;by_cases hc:4294967296<=n
 ·rw [if_pos (by simp only [decide_eq_true_eq]; omega),lt_];have e:=sh (n:=n) (k:=32) (by omega);rw [show ((32:Nat):Int)=32 from rfl] at e;rw [e,show (32:Int)=((32:Nat):Int) from rfl,c _ _ (by omega) (by omega),aCa 32 n (by omega)];congr 1
 ·rw [if_neg (by simp only [decide_eq_true_eq]; omega),show (0:Int)=((0:Nat):Int) from rfl,c _ _ (by omega) (by omega)];simp
theorem aPs:∀ (l:List Int) (m x:Int),mn m (l++[x])=if x<mn m l then x else mn m l
 | [],m,x=>rfl
 | y::l,m,x=>aPs l _ x
theorem aSn:∀ (l:List Int) (m:Int),mn m l<=m/\∀ x∈l,mn m l<=x
 | [],m=>⟨Int.le_refl _,λx h=>by cases h⟩
 | y::l,m=>by
  obtain⟨a,c⟩:=aSn l (if y<m then y else m);have b:(if y<m then y else m)<=m/\(if y<m then y else m)<=y:=by split <;> omega
  refine⟨Int.le_trans a b.1,λx hx=>?_⟩;rcases List.mem_cons.1 hx with rfl | hx
  ·exact Int.le_trans a b.2
  ·exact c x hx
theorem aSf:∀ (l:List Int) (m:Int),mn m l=m\/mn m l∈l
 | [],m=>.inl rfl
 | y::l,m=>by
  rcases aSf l (if y<m then y else m) with h | h
  ·simp only [mn];rw [h];split
   ·exact .inr List.mem_cons_self
   ·exact .inl rfl
  ·exact .inr (List.mem_cons_of_mem _ h)
theorem aKe {x:Int} {l:List Int} (h:I64 (x::l)):i64 (mn x l):=by
 rcases aSf l x with e | e
 ·rw [e]; exact h x List.mem_cons_self
 ·exact h _ (List.mem_cons_of_mem _ e)
theorem aY5 {x lo:Int} (hx:i64 x) (hlo:i64 lo) (h:lo<=x):IntKind.u64.wrap (IntKind.i64.wrap (x - lo))=(((x - lo).toNat:Nat):Int)/\(x - lo).toNat<18446744073709551616:=by unfold i64 at hx hlo;refine⟨?_,by omega⟩;rw [IntKind.wrap_u64,IntWalk.i64_left];unfold wrap64;omega
theorem aHc (D:List Nat) (d:Nat):wdt (D++[d])=if wdt D<bl d then bl d else wdt D:=by unfold wdt; rw [List.foldl_append]; rfl
theorem aTv:∀ (k:Nat) (D:List Nat),D.length=k->∀ d∈D,bl d<=wdt D
 | 0,D,hk,d,hd=>by rw [List.eq_nil_of_length_eq_zero hk] at hd; cases hd
 | k+1,D,hk,d,hd=>by
  obtain⟨c,x,rfl⟩:∃ c x,D=c++[x]:=⟨D.dropLast,D.getLast (by intro e; rw [e] at hk; cases hk),(List.dropLast_concat_getLast _).symm⟩;rw [aHc];rcases List.mem_append.1 hd with h | h
  ·have:=aTv k c (by simpa using hk) d h;split <;> omega
  ·rw [List.mem_singleton.1 h];split <;> omega
theorem aTn (b:Nat):∀ (k:Nat) (D:List Nat),D.length=k->(∀ d∈D,bl d<=b)->wdt D<=b
 | 0,D,hk,_=>by rw [List.eq_nil_of_length_eq_zero hk]; simp [wdt]
 | k+1,D,hk,h=>by obtain⟨c,x,rfl⟩:∃ c x,D=c++[x]:=⟨D.dropLast,D.getLast (by intro e; rw [e] at hk; cases hk),(List.dropLast_concat_getLast _).symm⟩;rw [aHc];have a:=aTn b k c (by simpa using hk) λd hd=>h d (List.mem_append.2 (.inl hd));have f:=h x (List.mem_append.2 (.inr (List.mem_singleton.2 rfl)));split <;> omega
theorem aT3 (D:List Nat):Lt (wdt D) D:=λd hd=>Nat.lt_of_lt_of_le (bC1 d) (Nat.pow_le_pow_right (by decide) (aTv _ D rfl d hd))
theorem aOv {lo x:Int} {l:List Int} {i:Nat} (h:l[i]?=some x):(ds lo l)[i]?=some (x - lo).toNat:=by simp [ds,h]
theorem vE (lo:Int) (l:List Int):(ds lo l).length=l.length:=by simp [ds]
theorem aVv {m v a:Nat} (h:a / 8<m):(ofN (by_ m (v % 2 ^ a))).set (a / 8) ((v % 2 ^ a / 2 ^ (8 * (a / 8)) % 256+bt v a * 2 ^ (a % 8):Nat):Int)=ofN (by_ m (v % 2 ^ (a+1))):=by
 unfold ofN;rw [← List.map_set];congr 1;refine aSd (by simp [tO]) λj b=>?_;rw [List.length_set,tO] at b;rw [aIa b];by_cases e:a / 8=j
 ·subst e;have:=(aEk v a 8 (by decide)).1;rw [Nat.mul_comm (a / 8) 8,show 2 ^ 8=256 from rfl] at this;rw [List.getElem?_set_self (by rw [tO]; exact b),this]
 ·have:=aJu v a j 8 (by decide) (Ne.symm e);rw [Nat.mul_comm j 8,show 2 ^ 8=256 from rfl] at this;rw [List.getElem?_set_ne e,aIa b,this]
theorem aWa {D:List Nat} {j d:Nat} (h:D[j]?=some d):(ofN D)[j]?=some (d:Int):=by simp [ofN,h]
theorem aDp (D:List Nat):(ofN D).length=D.length:=by simp [ofN]
section
variable {l:List Int} {lo:Int} {w:Nat} (hl:l.length<=4096) (hi:I64 l) (hlo:i64 lo) (hle:∀ x∈l,lo<=x) (hw:w<=64) (hL:Lt w (ds lo l))
include hl hi hlo hle hw hL
omit hl in
theorem aYc {i:Nat} {x:Int} (hx:l[i]?=some x) {k:Nat} (hk:k<w) :
  oT .u64 (IntKind.u64.wrap (IntKind.i64.wrap (x - lo))) (k:Int)=(((x - lo).toNat / 2 ^ k:Nat):Int)/\bt (V w (ds lo l)) (i * w+k)=(x - lo).toNat / 2 ^ k % 2/\(x - lo).toNat / 2 ^ k<18446744073709551616:=by
 obtain⟨e,e'⟩:=aY5 (hi.get hx) hlo (hle x (List.mem_of_getElem? hx));rw [e];exact⟨sh (by omega),bCr hL (aOv hx) hk,Nat.lt_of_le_of_lt (Nat.div_le_self _ _) e'⟩
omit hi hlo hle hL in
theorem bAe {i k:Nat} (a:i<l.length) (hk:k<w):i * w+k<l.length * w/\l.length * w<=262144/\(i * w+k) / 8<(l.length * w+7) / 8:=by have b:(i+1) * w<=l.length * w:=Nat.mul_le_mul_right _ a;have c:l.length * w<=4096 * 64:=Nat.mul_le_mul hl hw;rw [Nat.add_mul] at b;refine⟨by omega,by omega,by omega⟩
theorem aSv {i:Nat} {x:Int} (hx:l[i]?=some x) :
  loop (λs:Int×List Int×Int=>iY lo (w:Int) x s.1 s.2.1 s.2.2) (((i * w:Nat):Int),ofN (by_ ((l.length * w+7) / 8) (V w (ds lo l) % 2 ^ (i * w))),0)
   = some ((((i+1) * w:Nat):Int),ofN (by_ ((l.length * w+7) / 8) (V w (ds lo l) % 2 ^ ((i+1) * w)))):=by
 have g:=(List.getElem?_eq_some_iff.1 hx).1;have:=kC (b:=λs:Int×List Int×Int=>iY lo (w:Int) x s.1 s.2.1 s.2.2) (λk=>(((i * w+k:Nat):Int),ofN (by_ ((l.length * w+7) / 8) (V w (ds lo l) % 2 ^ (i * w+k))),(k:Int))) (t:=((((i+1) * w:Nat):Int),ofN (by_ ((l.length * w+7) / 8) (V w (ds lo l) % 2 ^ ((i+1) * w))))) w (λk hk=>by
  obtain⟨h,q,c⟩:=bAe hl hw g hk;obtain⟨j,d,m⟩:=aYc hi hlo hle hw hL hx hk;show iY lo (w:Int) x ((i * w+k:Nat):Int) (ofN (by_ ((l.length * w+7) / 8) (V w (ds lo l) % 2 ^ (i * w+k)))) (k:Int)=_;have e:=aVv (v:=V w (ds lo l)) c;have f:V w (ds lo l) % 2 ^ (i * w+k) / 2 ^ (8 * ((i * w+k) / 8)) % 256<2 ^ ((i * w+k) % 8):=by
   have:=(aEk (V w (ds lo l)) (i * w+k) 8 (by decide)).2
   rwa [Nat.mul_comm ((i * w+k) / 8) 8] at this
  rw [show i * w+(k+1)=i * w+k+1 by omega];generalize i * w+k=a at h c d e f ⊢;have o:=aWa (aIa (v:=V w (ds lo l) % 2 ^ a) c);unfold iY;rw [if_pos (by simp only [decide_eq_true_eq]; omega),lt_,show ((a:Nat):Int).tdiv 8=((a / 8:Nat):Int) from rfl,w64 (n:=((a / 8:Nat):Int)) (by omega) (by omega),bE rfl o];simp only [Option.bind_some,lt_];rw [bL (by omega),j,show ((a:Nat):Int).tmod 8=((a % 8:Nat):Int) from rfl,bL (by omega)];have p:aA3 .u64 (((x - lo).toNat / 2 ^ k:Nat):Int) 1=((bt (V w (ds lo l)) a:Nat):Int):=by have:=aId (a:=(x - lo).toNat / 2 ^ k) (b:=1) m (by omega);rw [show ((1:Nat):Int)=1 from rfl] at this;rw [this,aSt,d]
  have hb:=aO7 (V w (ds lo l)) a;have r:2 ^ (a % 8)<=2 ^ 7:=Nat.pow_le_pow_right (by decide) (by omega);have u:bt (V w (ds lo l)) a * 2 ^ (a % 8)<=1 * 2 ^ (a % 8):=Nat.mul_le_mul_right _ (by omega);have hm:bt (V w (ds lo l)) a * 2 ^ (a % 8) % 256=bt (V w (ds lo l)) a * 2 ^ (a % 8):=Nat.mod_eq_of_lt (by omega);rw [p,u8w (by omega) (by omega),aP2 _ _ (by omega),hm,aUg (by omega) (by omega),aAy f,w64 (by omega) (by omega),w64 (by omega) (by omega),Int.toNat_natCast,e];rfl) (by
  show iY lo (w:Int) x ((i * w+w:Nat):Int) (ofN (by_ ((l.length * w+7) / 8) (V w (ds lo l) % 2 ^ (i * w+w)))) (w:Int)=_;unfold iY;rw [if_neg (by simp),show i * w+w=(i+1) * w by rw [Nat.add_mul,Nat.one_mul]])
 simpa using this
theorem aU2:loop (λs:Int×List Int×Int=>iZ l lo (w:Int) s.1 s.2.1 s.2.2) (0,List.replicate ((l.length * w+7) / 8) 0,0)=some (ofN (by_ ((l.length * w+7) / 8) (V w (ds lo l)))):=by
 have:=kC (b:=λs:Int×List Int×Int=>iZ l lo (w:Int) s.1 s.2.1 s.2.2) (λi=>(((i * w:Nat):Int),ofN (by_ ((l.length * w+7) / 8) (V w (ds lo l) % 2 ^ (i * w))),(i:Int))) (t:=ofN (by_ ((l.length * w+7) / 8) (V w (ds lo l)))) l.length (λi c=>by
  have hx:=List.getElem?_eq_getElem c;show iZ l lo (w:Int) ((i * w:Nat):Int) (ofN (by_ ((l.length * w+7) / 8) (V w (ds lo l) % 2 ^ (i * w)))) (i:Int)=_;unfold iZ;rw [if_pos (by simp only [decide_eq_true_eq]; omega),bE rfl hx];simp only [Option.bind_some];rw [aSv hl hi hlo hle hw hL hx];simp only [Option.bind_some];unfold rQ uM;rw [lt_,w64 (by omega) (by omega)];rfl) (by
  show iZ l lo (w:Int) ((l.length * w:Nat):Int) (ofN (by_ ((l.length * w+7) / 8) (V w (ds lo l) % 2 ^ (l.length * w)))) (l.length:Int)=_;unfold iZ;have a:=aVn hL;rw [vE] at a;rw [if_neg (by simp),Nat.mod_eq_of_lt a])
 have e0:ofN (by_ ((l.length * w+7) / 8) (V w (ds lo l) % 2 ^ (0 * w)))=List.replicate ((l.length * w+7) / 8) 0:=by rw [Nat.zero_mul,Nat.pow_zero,Nat.mod_one];unfold ofN by_;rw [List.map_map,List.eq_replicate_iff];refine⟨by simp,λb hb=>?_⟩;obtain⟨j,_,rfl⟩:=List.mem_map.1 hb;simp
 rw [e0] at this;simpa using this
end
section
variable {l:List Int} {lo:Int} {w:Nat} (hl:l.length<=4096) (hi:I64 l) (hlo:i64 lo) (hle:∀ x∈l,lo<=x) (hw:w<=64) (hL:Lt w (ds lo l)) {pre:List Int} (hp:pre.length<=100)
include hl hi hlo hle hw hL hp
end
theorem aVr {x:Int} {l:List Int} (hl:(x::l).length<=4096):jA (x::l)=some (mn x l):=by
 simp only [List.length_cons] at hl;unfold jA;rw [if_neg (by simp only [decide_eq_true_eq,List.length_cons]; omega),show at_ (x::l) 0=some x from rfl];simp only [Option.bind_some];have:=kC (b:=λs:Int×Int=>dE (x::l) s.1 s.2) (λk=>(mn x (l.take k),((k+1:Nat):Int))) (t:=mn x l) l.length (λk hk=>by
  have hx:=List.getElem?_eq_getElem hk;show dE (x::l) (mn x (l.take k)) ((k+1:Nat):Int)=_;unfold dE;rw [if_pos (by simp only [decide_eq_true_eq,List.length_cons]; omega),bE rfl (by rw [List.getElem?_cons_succ]; exact hx)];simp only [Option.bind_some,lt_];rw [w64 (by omega) (by omega),tP hx,aPs];rfl) (by
  show dE (x::l) (mn x (l.take l.length)) ((l.length+1:Nat):Int)=_;unfold dE;rw [if_neg (by simp),List.take_length])
 rw [show ((x,1):Int×Int)=(λk=>(mn x (l.take k),((k+1:Nat):Int))) 0 from rfl,this];rfl
section
variable {l:List Int} {lo:Int} (hl:l.length<=4096) (hi:I64 l) (hlo:i64 lo) (hle:∀ x∈l,lo<=x)
include hl hi hlo hle
omit hl in
theorem bBn:∀ d∈ds lo l,bl d<=64:=by intro d hd;obtain⟨x,hx,rfl⟩:=List.mem_map.1 hd;exact aX4 64 _ (aY5 (hi x hx) hlo (hle x hx)).2
omit hl in
theorem aKo (k:Nat):wdt ((ds lo l).take k)<=64:=aTn 64 _ _ rfl λd hd=>bBn hi hlo hle d (List.mem_of_mem_take hd)
theorem aU7:loop (λs:Int×Int=>iX l lo s.1 s.2) (0,0)=some (wdt (ds lo l):Int):=by
 have:=kC (b:=λs:Int×Int=>iX l lo s.1 s.2) (λk=>((wdt ((ds lo l).take k):Int),(k:Int))) (t:=(wdt (ds lo l):Int)) l.length (λk hk=>by
  have hx:=List.getElem?_eq_getElem hk;obtain⟨e,e'⟩:=aY5 (hi.get hx) hlo (hle _ (List.mem_of_getElem? hx));show iX l lo (wdt ((ds lo l).take k):Int) (k:Int)=_;unfold iX;rw [if_pos (by simp only [decide_eq_true_eq]; omega),bE rfl hx];simp only [Option.bind_some,lt_];rw [e,aZu e'];simp only [Option.bind_some];rw [w64 (by omega) (by omega),List.take_add_one (i:=k),aOv hx];show some (Sum.inl _)=some (Sum.inl (((wdt ((ds lo l).take k++[(l[k] - lo).toNat]):Nat):Int),((k+1:Nat):Int)));rw [aHc];congr 3;split <;> split <;> omega) (by
  show iX l lo (wdt ((ds lo l).take l.length):Int) (l.length:Int)=_;unfold iX;rw [if_neg (by simp),List.take_of_length_le (by rw [vE]; exact Nat.le_refl _)])
 simpa [wdt] using this
end
theorem aKu {x:Int} {l:List Int}:∀ y∈x::l,mn x l<=y:=λy a=>by
 rcases List.mem_cons.1 a with rfl | h
 ·exact (aSn l y).1
 ·exact (aSn l x).2 y h
theorem bDu {l pre:List Int} (hl:l.length<=4096) (hi:I64 l) (hp:pre.length<=20):tK pre l=some (pre++pk l):=by
 cases l with
 | nil=>simp [tK,pk]
 | cons x l =>
  have hlo:=aKe hi;have hle:=aKu (x:=x) (l:=l);unfold tK;rw [if_neg (by simp; omega),aVr hl];simp only [Option.bind_some];rw [aU7 hl hi hlo hle];simp only [Option.bind_some];have hw:wdt (ds (mn x l) (x::l))<=64:=by
   have:=aKo hi hlo hle (x::l).length
   rwa [List.take_of_length_le (by rw [vE]; exact Nat.le_refl _)] at this
  have hL:=aT3 (ds (mn x l) (x::l));have hz:=aM (wF hlo);simp only [pk];generalize wdt (ds (mn x l) (x::l))=w at hw hL ⊢;have a:(x::l).length * w<=4096 * 64:=Nat.mul_le_mul hl hw;unfold rH uD;rw [zF hlo _ (by omega)];simp only [Option.bind_some,lt_];rw [u8w (n:=(w:Int)) (by omega) (by omega),bL (by simp only [List.length_append,List.length_singleton]; omega), ← Int.natCast_mul,w64 (n:=(((x::l).length * w:Nat):Int)) (by omega) (by omega),w64 (n:=(((x::l).length * w:Nat):Int)+7) (by omega) (by omega),
   show ((((x::l).length * w:Nat):Int)+7).tdiv 8=((((x::l).length * w+7) / 8:Nat):Int) from rfl,w64 (by omega) (by omega),bL (by omega),Int.toNat_natCast,aU2 hl hi hlo hle hw hL]
  simp only [Option.bind_some];unfold rW uI;rw [bL (by simp only [List.length_append,List.length_singleton,aDp,tO]; omega)];simp
theorem aZy {w:Nat} {l:List Int} (hw:w<4) (hl:l.length<=4096) (hi:I64 l):vO (w:Int) l=some (asL w l):=by
 have hu:=aM (n:=l.length) (by omega);unfold vO;rw [lt_,oM (by omega) (by omega),sN _ _ (by omega) (by simp; omega)];simp only [Option.bind_some];have hp:([(w:Int)]++uv l.length).length<=20:=by simp; omega
 unfold asL
 match w,hw with
 | 0,_ =>
  rw [if_pos (by rfl),bDt hl hi hp];simp [uF,xQ,iV,body]
 | 1,_ =>
  rw [if_neg (by decide),if_pos (by rfl),bDp hl hp];simp [uK,xL,iV,body]
 | 2,_ =>
  rw [if_neg (by decide),if_neg (by decide),if_pos (by rfl),bEp hl hi hp];simp [uV,xN,iV,body]
 | 3,_ =>
  rw [if_neg (by decide),if_neg (by decide),if_neg (by decide),if_pos (by rfl),bDu hl hi hp];simp [iV,body]
def iR (a b:List Int):List Int:=if b.length<a.length then b else a
def fX (l:List Int):List Int:=iR (iR (iR (asL 0 l) (asL 1 l)) (asL 2 l)) (asL 3 l)
theorem aBu {l:List Int} (hl:l.length<=4096) (hi:I64 l):nN l=some (fX l):=by
 have hA:∀ w:Nat,w<4->vO (w:Int) l=some (asL w l):=λw hw=>aZy hw hl hi;unfold fX;unfold nN;obtain⟨p,hp⟩:∃ p:Nat->List Int,∀ w,p w=asL w l:=⟨_,λ_=>rfl⟩;have step:∀ (b:List Int) (w:Nat),1<=w->w<4->fU l b (w:Int)=some (.inl (iR b (p w),((w+1:Nat):Int))):=by
  intro b w c a;unfold fU rF iR;rw [if_pos (by simp only [decide_eq_true_eq]; omega),hA w a,hp];simp only [Option.bind_some,lt_];rw [u8w (by omega) (by omega)];by_cases h:(asL w l).length<b.length
  ·rw [if_pos (by simp only [decide_eq_true_eq]; omega),if_pos h]; rfl
  ·rw [if_neg (by simp only [decide_eq_true_eq]; omega),if_neg h]; rfl
 have h0:=hA 0 (by decide);rw [show ((0:Nat):Int)=0 from rfl] at h0;rw [h0, ← hp 0, ← hp 1, ← hp 2, ← hp 3];clear hA h0 hp;simp only [Option.bind_some];have a:∀ b,fU l b ((4:Nat):Int)=some (.inr b):=by intro b;unfold fU;rw [if_neg (by decide)]
 have:=((cL (b:=λs:List Int×Int=>fU l s.1 s.2) (s:=(p 0,((1:Nat):Int))) (step (p 0) 1 (by decide) (by decide))).trans
  ((cL (b:=λs:List Int×Int=>fU l s.1 s.2) (s:=(iR (p 0) (p 1),((2:Nat):Int))) (step _ 2 (by decide) (by decide))).trans
  ((cL (b:=λs:List Int×Int=>fU l s.1 s.2) (s:=(iR (iR (p 0) (p 1)) (p 2),((3:Nat):Int))) (step _ 3 (by decide) (by decide))).trans (bK (b:=λs:List Int×Int=>fU l s.1 s.2) (s:=(iR (iR (iR (p 0) (p 1)) (p 2)) (p 3),((4:Nat):Int))) (a _)))))
 rw [show (1:Int)=((1:Nat):Int) from rfl,this];rfl
def aBf:Nat->List Int->Option (List Int×List Int)
 | 0,xs=>some ([],xs)
 | n+1,xs=>match pI xs with
  | some (x,r)=>match aBf n r with
   | some (l,r')=>some (x::l,r')
   | none=>none
  | none=>none
def pD:Int->Nat->List Int->Option (List Int×List Int)
 | _,0,xs=>some ([],xs)
 | a,n+1,xs=>match pI xs with
  | some (x,r)=>match pD (IntKind.i64.wrap (a+x)) n r with
   | some (l,r')=>some (IntKind.i64.wrap (a+x)::l,r')
   | none=>none
  | none=>none
def pR:Nat->Nat->List Int->Option (List Int×List Int)
 | 0,_,xs=>some ([],xs)
 | f+1,n,xs=>if n=0 then some ([],xs) else match pI xs with
  | some (x,r)=>match pU ((n - 1:Nat):Int) r with
   | some (k,r')=>match pR f (n - (k.toNat+1)) r' with
    | some (l,r'')=>some (List.replicate (k.toNat+1) x++l,r'')
    | none=>none
   | none=>none
  | none=>none
def toN (xs:List Int):List Nat:=xs.map Int.toNat
def part (n w v:Nat):List Int:=(List.range n).map λq=>IntKind.i64.wrap ((v / 2 ^ (q * w) % 2 ^ w:Nat):Int)
def pP (n:Nat) (xs:List Int):Option (List Int×List Int):=match pI xs with
 | some (lo,r)=>match pB r with
  | some (w,r')=>if w<=64/\r'.length=(n * w.toNat+7) / 8/\V 8 (toN r')<2 ^ (n * w.toNat) then some ((part n w.toNat (V 8 (toN r'))).map λx=>IntKind.i64.wrap (x+lo),[]) else none
  | none=>none
 | none=>none
def aJ4 (w:Int) (n:Nat) (r:List Int):Option (List Int×List Int) :=
 if w=0 then aBf n r else if w=1 then pD 0 n r else if w=2 then pR n n r else if 0<n then pP n r else some ([],r)
def aF1 (xs:List Int):Option (List Int×List Int):=match pB xs with
 | some (w,r)=>if w<=3 then (match pU 4096 r with
  | some (n,r')=>aJ4 w n.toNat r'
  | none=>none) else none
 | none=>none
theorem aX0 {xs r:List Int} {b:Int} (hB:Bs xs) (h:pB xs=some (b,r)):(0<=b/\b<256)/\Bs r/\xs=b::r:=by
 cases xs with
 | nil=>cases h
 | cons c xs=>cases h; exact⟨hB.cons.1,hB.cons.2,rfl⟩
theorem aJ6 (n:Nat) (hn:n<=4096):∀ (m k:Nat) (acc xs:List Int),Bs xs->k+m=n->acc.length=k ->
  ∃ y,loop (λs:List Int×List Int×Int=>dJ (n:Int) s.1 s.2.1 s.2.2) (xs,acc,(k:Int))=some y/\match aBf m xs with
   | some (l,r)=>y=.inl (r,acc++l)
   | none=>∃ s,y=.inr (.inr s)
 | 0,k,acc,xs,hB,hk,ha=>by refine⟨_,bK (t:=Sum.inl (xs,acc)) ?_,by simp [aBf]⟩;show dJ (n:Int) xs acc (k:Int)=_;unfold dJ;rw [if_neg (by simp only [decide_eq_true_eq]; omega)]
 | m+1,k,acc,xs,hB,hk,ha=>by
  unfold aBf;rcases (aH2 hB).cases with ⟨x,r,a,b⟩ | ⟨a,s,b⟩
  ·rw [a];obtain⟨y,c,hm⟩:=aJ6 n hn m (k+1) (acc++[x]) r (aP7 hB a).1 (by omega) (by simp [ha]);refine⟨y,(cL (s':=(r,acc++[x],((k+1:Nat):Int))) ?_).trans c,?_⟩
   ·show dJ (n:Int) xs acc (k:Int)=_;unfold dJ;rw [if_pos (by simp only [decide_eq_true_eq]; omega),b];simp only [Option.bind_some,hJ,lt_];rw [bL (by simp; omega),w64 (by omega) (by omega)];rfl
   ·simp only;revert hm;cases aBf m r with
    | none=>exact id
    | some q=>intro hm; simpa using hm
  ·rw [a];refine⟨_,bK (t:=Sum.inr (.inr s)) ?_,s,rfl⟩;show dJ (n:Int) xs acc (k:Int)=_;unfold dJ;rw [if_pos (by simp only [decide_eq_true_eq]; omega),b];rfl
theorem aVu {n:Nat} (hn:n<=4096) {xs:List Int} (hB:Bs xs):IsR (nA (n:Int) ⟨xs⟩) (aBf n xs):=by
 obtain⟨y,a,hm⟩:=aJ6 n hn n 0 [] xs hB (by omega) rfl;unfold nA;rw [show (0:Int)=((0:Nat):Int) from rfl,a];simp only [Option.bind_some];revert hm;cases aBf n xs with
 | none=>rintro⟨s,rfl⟩; exact⟨s,rfl⟩
 | some q=>intro hm; subst hm; rfl
theorem aPv (n:Nat) (hn:n<=4096):∀ (m k:Nat) (a:Int) (acc xs:List Int),Bs xs->k+m=n->acc.length=k ->
  ∃ y,loop (λs:List Int×List Int×Int×Int=>hN (n:Int) s.1 s.2.1 s.2.2.1 s.2.2.2) (xs,acc,a,(k:Int))=some y/\match pD a m xs with
   | some (l,r)=>y=.inl (r,acc++l)
   | none=>∃ s,y=.inr (.inr s)
 | 0,k,a,acc,xs,hB,hk,ha=>by refine⟨_,bK (t:=Sum.inl (xs,acc)) ?_,by simp [pD]⟩;show hN (n:Int) xs acc a (k:Int)=_;unfold hN;rw [if_neg (by simp only [decide_eq_true_eq]; omega)]
 | m+1,k,a,acc,xs,hB,hk,ha=>by
  unfold pD;rcases (aH2 hB).cases with ⟨x,r,b,c⟩ | ⟨b,s,c⟩
  ·rw [b];obtain⟨y,d,hm⟩:=aPv n hn m (k+1) (IntKind.i64.wrap (a+x)) (acc++[IntKind.i64.wrap (a+x)]) r (aP7 hB b).1 (by omega) (by simp [ha]);refine⟨y,(cL (s':=(r,acc++[IntKind.i64.wrap (a+x)],IntKind.i64.wrap (a+x),((k+1:Nat):Int))) ?_).trans d,?_⟩
   ·show hN (n:Int) xs acc a (k:Int)=_;unfold hN;rw [if_pos (by simp only [decide_eq_true_eq]; omega),c];simp only [Option.bind_some,hJ,lt_];rw [bL (by simp; omega),w64 (n:=(k:Int)+1) (by omega) (by omega)];rfl
   ·simp only;revert hm;cases pD (IntKind.i64.wrap (a+x)) m r with
    | none=>exact id
    | some q=>intro hm; simpa using hm
  ·rw [b];refine⟨_,bK (t:=Sum.inr (.inr s)) ?_,s,rfl⟩;show hN (n:Int) xs acc a (k:Int)=_;unfold hN;rw [if_pos (by simp only [decide_eq_true_eq]; omega),c];rfl
theorem aTh (y:Int×S140) (k:Nat) (acc:List Int) (h:acc.length+k<=8192):loop (λs:List Int×Int=>iN y (k:Int) s.1 s.2) (acc,0)=some (acc++List.replicate k y.1):=by
 have:=kC (b:=λs:List Int×Int=>iN y (k:Int) s.1 s.2) (λj=>(acc++List.replicate j y.1,(j:Int))) (t:=acc++List.replicate k y.1) k (λj a=>by
  show iN y (k:Int) (acc++List.replicate j y.1) (j:Int)=_;unfold iN;rw [if_pos (by simp only [decide_eq_true_eq]; omega),bL (by simp; omega),lt_,oM (by omega) (by omega),List.replicate_succ',List.append_assoc];rfl) (by
  show iN y (k:Int) (acc++List.replicate k y.1) (k:Int)=_;unfold iN;rw [if_neg (by simp)])
 simpa using this
theorem aPk (n:Nat) (hn:n<=4096):∀ (f m:Nat) (acc xs:List Int),Bs xs->acc.length+m=n->m<=f ->
  ∃ y,loop (λs:List Int×List Int=>dW (n:Int) s.1 s.2) (xs,acc)=some y/\match pR f m xs with
   | some (l,r)=>y=.inl (r,acc++l)
   | none=>∃ s,y=.inr (.inr s)
 | 0,m,acc,xs,hB,hk,hf=>by refine⟨_,bK (t:=Sum.inl (xs,acc)) ?_,by simp [pR]⟩;show dW (n:Int) xs acc=_;unfold dW;rw [if_neg (by simp only [decide_eq_true_eq]; omega)]
 | f+1,m,acc,xs,hB,hk,hf=>by
  unfold pR;by_cases g:m=0
  ·rw [if_pos g];refine⟨_,bK (t:=Sum.inl (xs,acc)) ?_,by simp⟩;show dW (n:Int) xs acc=_;unfold dW;rw [if_neg (by simp only [decide_eq_true_eq]; omega)]
  ·rw [if_neg g];rcases (aH2 hB).cases with ⟨x,r,b,d⟩ | ⟨b,s,d⟩
   ·rw [b];simp only;have h:=(aP7 hB b).1;have i:IntKind.u64.wrap (IntKind.i64.wrap (IntKind.i64.wrap ((n:Int) - (acc.length:Int)) - 1))=((m - 1:Nat):Int):=by rw [w64 (n:=(n:Int) - (acc.length:Int)) (by omega) (by omega),w64 (by omega) (by omega),oM (by omega) (by omega)];omega
    rcases (aCn ((m - 1:Nat):Int) h).cases with ⟨k,r',a,e⟩ | ⟨a,s,e⟩
    ·rw [a];simp only;obtain⟨o,p,u⟩:=(tA a).1;obtain⟨c,rfl⟩:∃ c:Nat,k=(c:Int):=⟨k.toNat,by omega⟩;rw [Int.toNat_natCast];obtain⟨y,j,hm⟩:=aPk n hn f (m - (c+1)) (acc++List.replicate (c+1) x) r' (aMj h a) (by simp; omega) (by omega);refine⟨y,(cL (s':=(r',acc++List.replicate (c+1) x)) ?_).trans j,?_⟩
     ·show dW (n:Int) xs acc=_;unfold dW;rw [if_pos (by simp only [decide_eq_true_eq]; omega),d];simp only [Option.bind_some,hJ,lt_];rw [i,e];simp only [Option.bind_some,hJ];rw [oM (by omega) (by omega),show (1:Int)+(c:Int)=((c+1:Nat):Int) by omega,aTh _ _ _ (by omega)];rfl
     ·revert hm;cases pR f (m - (c+1)) r' with
      | none=>exact id
      | some q=>intro hm; simpa using hm
    ·rw [a];refine⟨_,bK (t:=Sum.inr (.inr s)) ?_,s,rfl⟩;show dW (n:Int) xs acc=_;unfold dW;rw [if_pos (by simp only [decide_eq_true_eq]; omega),d];simp only [Option.bind_some,hJ,lt_];rw [i,e];rfl
   ·rw [b];refine⟨_,bK (t:=Sum.inr (.inr s)) ?_,s,rfl⟩;show dW (n:Int) xs acc=_;unfold dW;rw [if_pos (by simp only [decide_eq_true_eq]; omega),d];rfl
theorem aUx {xs:List Int} (hB:Bs xs) {j:Nat} (h:j<xs.length):∃ b:Nat,xs[j]?=some (b:Int)/\(toN xs)[j]?=some b/\b<256:=by have hx:=List.getElem?_eq_getElem h;have:=hB _ (List.mem_of_getElem? hx);refine⟨xs[j].toNat,by rw [hx]; congr 1; omega,by simp [toN,hx],by omega⟩
theorem aZh {xs:List Int} (hB:Bs xs):Lt 8 (toN xs):=by intro d hd;obtain⟨b,hb,rfl⟩:=List.mem_map.1 hd;have:=hB b hb;omega
theorem rE (n w v:Nat):(part n w v).length=n:=by simp [part]
theorem aE2 {n w v q:Nat} (h:q<n):(part n w v)[q]?=some (IntKind.i64.wrap ((v / 2 ^ (q * w) % 2 ^ w:Nat):Int)):=by unfold part;rw [List.getElem?_map,List.getElem?_range h]; rfl
theorem aPu {xs ys:List Int} (hl:xs.length=ys.length) (h:∀ j:Nat,j<xs.length->xs[j]?=ys[j]?):xs=ys:=by
 apply List.ext_getElem? λj=>?_;rcases Nat.lt_or_ge j xs.length with a | a
 ·exact h j a
 ·rw [List.getElem?_eq_none a,List.getElem?_eq_none (by omega)]
theorem aHg (a:Nat):BitVec.ofInt 64 (IntKind.i64.wrap (a:Int))=BitVec.ofNat 64 a:=by apply BitVec.eq_of_toNat_eq;rw [BitVec.toNat_ofInt,BitVec.toNat_ofNat,IntWalk.i64_left];unfold wrap64;omega
theorem aTi (a b:Nat) (c:a<18446744073709551616) (hb:b<18446744073709551616):ior .i64 (IntKind.i64.wrap (a:Int)) (IntKind.i64.wrap (b:Int))=IntKind.i64.wrap ((a ||| b:Nat):Int):=by show IntKind.i64.wrap (((BitVec.ofInt 64 (IntKind.i64.wrap (a:Int)) ||| BitVec.ofInt 64 (IntKind.i64.wrap (b:Int))).toNat:Nat):Int)=_;rw [aHg,aHg,BitVec.toNat_or,BitVec.toNat_ofNat,BitVec.toNat_ofNat,Nat.mod_eq_of_lt (show a<2 ^ 64 by omega),Nat.mod_eq_of_lt (show b<2 ^ 64 by omega)]
theorem aRe {n w v i:Nat} (hw:0<w) (h:i / w<n):(part n w (v % 2 ^ i)).set (i / w) (IntKind.i64.wrap ((v % 2 ^ i / 2 ^ (i / w * w) % 2 ^ w+bt v i * 2 ^ (i % w):Nat):Int))=part n w (v % 2 ^ (i+1)):=by
 refine aPu (by simp [rE]) λj a=>?_;rw [List.length_set,rE] at a;rw [aE2 a];by_cases e:i / w=j
 ·subst e;rw [List.getElem?_set_self (by rw [rE]; exact a),(aEk v i w hw).1]
 ·rw [List.getElem?_set_ne e,aE2 a,aJu v i j w hw (Ne.symm e)]
theorem aMp {n w:Nat} (hn:n<=4096) (hw:w<=64) {xs:List Int} (hB:Bs xs) (hlen:xs.length=(n * w+7) / 8) :
  ∃ y,loop (λs:List Int×List Int×Int=>iC (n:Int) (w:Int) ((8 * xs.length:Nat):Int) s.1 s.2.1 s.2.2) (xs,List.replicate n 0,0)=some y /\
   ((V 8 (toN xs)<2 ^ (n * w)/\y=.inl (xs,part n w (V 8 (toN xs))))\/(¬ V 8 (toN xs)<2 ^ (n * w)/\∃ s,y=.inr (.inr s))):=by
 have H:n * w<=4096 * 64:=Nat.mul_le_mul hn hw;have hL:=aZh hB;have m:V 8 (toN xs)<2 ^ (8 * xs.length):=by have:=aVn hL;rw [show (toN xs).length=xs.length by simp [toN],Nat.mul_comm] at this;exact this
 obtain⟨v,e⟩:∃ v,v=V 8 (toN xs):=⟨_,rfl⟩;have x:∀ j t b,(toN xs)[j]?=some b->t<8->bt v (j * 8+t)=bt b t:=λj t b hb ht=>by rw [e]; exact bCr hL hb ht
 rw [← e] at m ⊢;clear e hL;refine aCh (b:=λs:List Int×List Int×Int=>iC (n:Int) (w:Int) ((8 * xs.length:Nat):Int) s.1 s.2.1 s.2.2) (s:=(xs,List.replicate n 0,0))
  (λs=>∃ i:Nat,s=(xs,part n w (v % 2 ^ i),(i:Int))/\i<=8 * xs.length/\(n * w<=i->v % 2 ^ i<2 ^ (n * w))) (λs=>(((8 * xs.length:Nat):Int) - s.2.2).toNat)
  (λy=>(v<2 ^ (n * w)/\y=.inl (xs,part n w v))\/(¬ v<2 ^ (n * w)/\∃ s,y=.inr (.inr s))) ⟨0,?_,by omega,λ_=>by rw [Nat.pow_zero,Nat.mod_one]; exact Nat.two_pow_pos _⟩ ?_
 ·rw [Nat.pow_zero,Nat.mod_one,show part n w 0=List.replicate n 0 by
   unfold part;rw [List.eq_replicate_iff];refine⟨by simp,λb hb=>?_⟩;obtain⟨q,_,rfl⟩:=List.mem_map.1 hb;simp;rfl]
  rfl
 ·rintro s ⟨i,rfl,I,hz⟩;show (∃ s',iC (n:Int) (w:Int) ((8 * xs.length:Nat):Int) xs (part n w (v % 2 ^ i)) (i:Int)=some (.inl s')/\_)\/∃ t,iC (n:Int) (w:Int) ((8 * xs.length:Nat):Int) xs (part n w (v % 2 ^ i)) (i:Int)=some (.inr t)/\_;unfold iC;by_cases J:i<8 * xs.length
  ·obtain⟨b,z,A,K⟩:=aUx hB (j:=i / 8) (by omega);have o:=x (i / 8) (i % 8) b A (by omega);rw [show i / 8 * 8+i % 8=i by omega] at o;have hb:=aO7 v i;have B:oT .u8 (b:Int) ((i % 8:Nat):Int)=((b / 2 ^ (i % 8):Nat):Int):=mD (k:=.u8) b (i % 8) (by show _<=8; omega);have e0:b / 2 ^ (i % 8)<=b:=Nat.div_le_self _ _;have C:aA3 .u64 ((b / 2 ^ (i % 8):Nat):Int) 1=((bt v i:Nat):Int):=by have:=aId (a:=b / 2 ^ (i % 8)) (b:=1) (by omega) (by omega);rw [show ((1:Nat):Int)=1 from rfl] at this;rw [this,aSt,o]; rfl
   rw [if_pos (by simp only [decide_eq_true_eq]; omega),lt_,show (i:Int).tdiv 8=((i / 8:Nat):Int) from rfl,w64 (by omega) (by omega),bE rfl z];simp only [Option.bind_some,lt_];rw [show (i:Int).tmod 8=((i % 8:Nat):Int) from rfl,bL (by omega),B,oM (Int.natCast_nonneg _) (by omega),C, ← Int.natCast_mul,w64 (n:=((n * w:Nat):Int)) (by omega) (by omega)];by_cases f:i<n * w
   ·
    have c:0<w:=by rcases Nat.eq_zero_or_pos w with h | h; rw [h] at f; simp at f; exact h
    have p:i / w<n:=(Nat.div_lt_iff_lt_mul c).2 f;have hk:i % w<w:=Nat.mod_lt _ c;rw [if_neg (by simp only [decide_eq_true_eq]; omega),bL (by omega),show (i:Int).tdiv (w:Int)=((i / w:Nat):Int) from rfl,w64 (n:=((i / w:Nat):Int)) (Int.le_trans (by decide) (Int.natCast_nonneg _)) (by omega),bE rfl (aE2 p)];simp only [Option.bind_some];obtain⟨L,D⟩:=aEk v i w c;have E:=aRe (v:=v) c p;have hp:2 ^ (i % w)<=2 ^ 63:=Nat.pow_le_pow_right (by decide) (by omega);have M:bt v i * 2 ^ (i % w)<=1 * 2 ^ (i % w):=Nat.mul_le_mul_right _ (by omega);have hm:bt v i * 2 ^ (i % w) % 18446744073709551616=bt v i * 2 ^ (i % w):=Nat.mod_eq_of_lt (by omega);rw [bL (by omega),show (i:Int).tmod (w:Int)=((i % w:Nat):Int) from rfl,bL (by omega),aMa _ _ (by omega),hm,aTi _ _ (by omega) (by omega),aAy D,Int.toNat_natCast,E];unfold lW;rw [lt_,w64 (n:=(i:Int)+1) (by omega) (by omega)];exact .inl ⟨_,rfl,⟨i+1,rfl,by omega,λh=>by
     have g:v % 2 ^ (i+1)<2 ^ (i+1):=Nat.mod_lt _ (Nat.two_pow_pos _);have F:i+1=n * w:=by omega
     rw [F] at g ⊢;exact g⟩,by simp only; omega⟩
   ·rw [if_pos (by simp only [decide_eq_true_eq]; omega)];have l:=aIs v i;by_cases r:bt v i=0
    ·rw [r,show (((0:Nat):Int)==0)=true from rfl,mL];simp only [Option.bind_some,hJ];unfold lW;rw [lt_,w64 (n:=(i:Int)+1) (by omega) (by omega)];rw [r,Nat.zero_mul,Nat.add_zero] at l;exact .inl ⟨_,rfl,⟨i+1,by rw [l]; rfl,by omega,λ_=>by rw [l]; exact hz (by omega)⟩,by simp only; omega⟩
    ·have d:bt v i=1:=by omega
     rw [d,show (((1:Nat):Int)==0)=false from rfl,rZ];refine .inr ⟨_,rfl,.inr ⟨λN=>?_,_,rfl⟩⟩;have g:2 ^ (n * w)<=2 ^ i:=Nat.pow_le_pow_right (by decide) (by omega);unfold bt at d;rw [Nat.div_eq_of_lt (by omega)] at d;cases d
  ·have G:i=8 * xs.length:=by omega
   rw [if_neg (by simp only [decide_eq_true_eq]; omega)];have u:v % 2 ^ i=v:=Nat.mod_eq_of_lt (by rw [G]; exact m);rw [u];refine .inr ⟨_,rfl,.inl ⟨?_,rfl⟩⟩;have:=hz (by omega)
   rwa [u] at this
theorem aN5 (lo:Int) (y:Int×S140) (a:y.1=lo) (L:List Int) (h:L.length<=4096):loop (λs:List Int×Int=>gP y L s.1 s.2) (L,0)=some (L.map λx=>IntKind.i64.wrap (x+lo)):=by
 have:=kC (b:=λs:List Int×Int=>gP y L s.1 s.2) (λk=>((L.take k).map (λx=>IntKind.i64.wrap (x+lo))++L.drop k,(k:Int))) (t:=L.map λx=>IntKind.i64.wrap (x+lo)) L.length (λk hk=>by
  have hx:=List.getElem?_eq_getElem hk;have hd:L.drop k=L[k]::L.drop (k+1):=List.drop_eq_getElem_cons hk;have hlen:((L.take k).map (λx=>IntKind.i64.wrap (x+lo))).length=k:=by simp; omega
  show gP y L ((L.take k).map (λx=>IntKind.i64.wrap (x+lo))++L.drop k) (k:Int)=_;unfold gP;rw [if_pos (by simp only [decide_eq_true_eq]; omega),bE (n:=k) (x:=L[k]) rfl (by rw [List.getElem?_append_right (by omega),hlen,Nat.sub_self,hd]; rfl)];simp only [Option.bind_some,lt_];rw [a,w64 (n:=(k:Int)+1) (by omega) (by omega),Int.toNat_natCast,tP hx,List.map_append,List.append_assoc,List.set_append_right _ _ (by omega),hlen,Nat.sub_self,hd];rfl) (by
  show gP y L _ (L.length:Int)=_;unfold gP;rw [if_neg (by simp),List.take_length,List.drop_length,List.append_nil])
 simpa using this
theorem aRr {n:Nat} (hn:n<=4096) {xs:List Int} (hB:Bs xs) (hl:xs.length<1099511627776):IsR (sQ ⟨xs⟩ (n:Int)) (pP n xs):=by
 unfold sQ pP;rcases (aH2 hB).cases with ⟨lo,r,a,c⟩ | ⟨a,s,c⟩
 ·rw [a,c];obtain⟨f,hlo,p,hp,_⟩:=aP7 hB a;have k:r.length<=xs.length:=by rw [hp]; simp
  simp only [Option.bind_some,hJ];rcases (IsR.cases (aLc r)) with ⟨wb,r',b,d⟩ | ⟨b,s,d⟩
  ·rw [b,d];obtain⟨l,g,h⟩:=aX0 f b;have m:r'.length<=r.length:=by rw [h]; simp
   obtain⟨w,rfl⟩:∃ w:Nat,wb=(w:Int):=⟨wb.toNat,by omega⟩;simp only [Option.bind_some,hJ,lt_,Int.toNat_natCast];rw [w64 (n:=(w:Int)) (by omega) (by omega)];by_cases hw:w<=64
   ·have o:n * w<=4096 * 64:=Nat.mul_le_mul hn hw;rw [if_pos (by simp only [decide_eq_true_eq]; omega), ← Int.natCast_mul,w64 (n:=((n * w:Nat):Int)) (by omega) (by omega),w64 (n:=((n * w:Nat):Int)+7) (by omega) (by omega),
     show (((n * w:Nat):Int)+7).tdiv 8=(((n * w+7) / 8:Nat):Int) from rfl,w64 (by omega) (by omega)]
    by_cases hlen:r'.length=(n * w+7) / 8
    ·rw [show ((r'.length:Int)==(((n * w+7) / 8:Nat):Int))=true by rw [hlen]; simp,mL];simp only [Option.bind_some,hJ];unfold oD;rw [bL (by omega),lt_,w64 (by omega) (by omega),Int.toNat_natCast];obtain⟨y,i,j⟩:=aMp hn hw g hlen;rw [show (8:Int) * (r'.length:Int)=((8 * r'.length:Nat):Int) by omega,i];simp only [Option.bind_some];rcases j with ⟨e,rfl⟩ | ⟨e,s,rfl⟩
     ·rw [if_pos ⟨by omega,hlen,e⟩];simp only;unfold pA rJ;rw [aN5 lo _ rfl _ (by rw [rE]; exact hn)];rfl
     ·rw [if_neg (λq=>e q.2.2)];exact⟨s,rfl⟩
    ·rw [show ((r'.length:Int)==(((n * w+7) / 8:Nat):Int))=false by simp; omega,rZ,if_neg (λq=>hlen q.2.1)];exact⟨_,rfl⟩
   ·rw [if_neg (by simp only [decide_eq_true_eq]; omega),rZ,if_neg (λq=>hw (by omega))];exact⟨_,rfl⟩
  ·rw [b,d];exact⟨s,rfl⟩
 ·rw [a,c];exact⟨s,rfl⟩
theorem aPn {xs:List Int} (hB:Bs xs) (hl:xs.length<1099511627776):IsR (tN ⟨xs⟩) (aF1 xs):=by
 unfold tN aF1;rcases (IsR.cases (aLc xs)) with ⟨w,r,d,k⟩ | ⟨d,s,k⟩
 ·rw [d,k];obtain⟨hw,t,hr⟩:=aX0 hB d;have x:r.length<=xs.length:=by rw [hr]; simp
  simp only [Option.bind_some,hJ];by_cases e:w<=3
  ·rw [show decide (w<=3)=true by simpa using e,mL,if_pos e];simp only [Option.bind_some,hJ];rcases (aCn 4096 t).cases with ⟨n,r',c,o⟩ | ⟨c,s,o⟩
   ·rw [c,o];obtain⟨⟨z,A,B⟩,p,hp,_⟩:=tA c;have f:=aMj t c;have C:r'.length<=r.length:=by rw [hp]; simp
    obtain⟨n,rfl⟩:∃ m:Nat,n=(m:Int):=⟨n.toNat,by omega⟩;simp only [Option.bind_some,hJ,lt_,Int.toNat_natCast];rw [w64 (by omega) (by omega)];unfold aJ4;by_cases g:w=0
    ·rw [if_pos (by simpa using g),if_pos g];rcases (aVu (n:=n) (by omega) f).cases with ⟨l,v,a,b⟩ | ⟨a,s,b⟩
     ·rw [a,b]; rfl
     ·rw [a,b]; exact⟨s,rfl⟩
    rw [if_neg (by simpa using g),if_neg g];by_cases h:w=1
    ·rw [if_pos (by simpa using h),if_pos h];obtain⟨y,i,hm⟩:=aPv n (by omega) n 0 0 [] r' f (by omega) rfl;rw [show ((0:Nat):Int)=0 from rfl] at i;rw [i];revert hm;cases pD 0 n r' with
     | none=>rintro⟨s,rfl⟩; exact⟨s,rfl⟩
     | some q=>intro hm; subst hm; rfl
    rw [if_neg (by simpa using h),if_neg h];by_cases j:w=2
    ·rw [if_pos (by simpa using j),if_pos j];obtain⟨y,i,hm⟩:=aPk n (by omega) n n [] r' f (by simp) (Nat.le_refl _);rw [i];revert hm;cases pR n n r' with
     | none=>rintro⟨s,rfl⟩; exact⟨s,rfl⟩
     | some q=>intro hm; subst hm; rfl
    rw [if_neg (by simpa using j),if_neg j,if_pos (by simp; omega)];by_cases u:0<n
    ·rw [if_pos (by simp only [decide_eq_true_eq]; omega),if_pos u];rcases (aRr (n:=n) (by omega) f (by omega)).cases with ⟨l,v,a,b⟩ | ⟨a,s,b⟩
     ·rw [a,b]; rfl
     ·rw [a,b]; exact⟨s,rfl⟩
    ·rw [if_neg (by simp only [decide_eq_true_eq]; omega),if_neg u];rfl
   ·rw [c,o];exact⟨s,rfl⟩
  ·rw [show decide (w<=3)=false by simpa using e,rZ,if_neg e];exact⟨_,rfl⟩
 ·rw [d,k];exact⟨s,rfl⟩
def vB (xs:List Int):Option (List Int):=match aF1 xs with
 | some (l,[])=>some l
 | _=>none
theorem xD {xs:List Int} (hB:Bs xs) (hl:xs.length<1099511627776):jH xs=some (match vB xs with | some l=>(l,0) | none=>([],3)):=by
 unfold jH qB qM vB;rcases (aPn hB hl).cases with ⟨l,r,a,c⟩ | ⟨a,s,c⟩
 ·rw [a,c];simp only [Option.bind_some,hJ];cases r with
  | nil=>rfl
  | cons b r=>rfl
 ·rw [a,c];rfl
theorem aMk:∀ (l r:List Int),I64 l->aBf l.length (b0 l++r)=some (l,r)
 | [],r,_=>rfl
 | x::l,r,h=>by
  have e:b0 (x::l)++r=uv (zz x)++(b0 l++r):=by simp [b0]
  rw [e,List.length_cons,aBf,aM8 (h x List.mem_cons_self)];simp only;rw [aMk l r λy a=>h y (List.mem_cons_of_mem _ a)]
theorem aQo (a x:Int) (h:i64 x):IntKind.i64.wrap (a+IntKind.i64.wrap (x - a))=x:=by unfold i64 at h;rw [IntWalk.i64_left,IntWalk.i64_left];unfold wrap64;omega
theorem aXb:∀ (l r:List Int) (a:Int),I64 l->pD a l.length (bD a l++r)=some (l,r)
 | [],r,a,_=>rfl
 | x::l,r,a,h=>by rw [bD,List.length_cons,pD,List.append_assoc,aM8 (aBw _)];simp only;rw [aQo a x (h x List.mem_cons_self),aXb l r x λy b=>h y (List.mem_cons_of_mem _ b)]
theorem aWz:∀ (f:Nat) (l r:List Int),I64 l->l.length<=f->l.length<=4096->pR f l.length (bR 0 l++r)=some (l,r)
 | 0,l,r,_,hf,_=>by have:l=[]:=List.eq_nil_of_length_eq_zero (by omega);subst this;rfl
 | f+1,[],r,_,_,_=>rfl
 | f+1,x::l,r,h,hf,hl=>by
  obtain⟨m,tl,hm,a⟩:=aFh x l;subst hm;have hlen:(x::(List.replicate m x++tl)).length=m+1+tl.length:=by simp; omega
  rw [hlen] at hf hl ⊢;rw [pR,if_neg (by omega),aN7 x tl a m 0,Nat.zero_add,List.append_assoc,List.append_assoc,aM8 (h x List.mem_cons_self)];simp only;rw [aH3 (by omega) _ (by omega)];simp only [Int.toNat_natCast];rw [show m+1+tl.length - (m+1)=tl.length by omega,aWz f tl r (λy b=>h y (List.mem_cons_of_mem _ (List.mem_append.2 (.inr b)))) (by omega) (by omega)];simp only [List.replicate_succ,List.cons_append]
theorem aWi (D:List Nat):toN (ofN D)=D:=by
 unfold toN ofN;rw [List.map_map];have:(Int.toNat ∘ λ(n:Nat)=>(n:Int))=id:=by funext n; simp
 rw [this,List.map_id]
theorem aVf {x lo:Int} (hm:i64 x) (hlo:i64 lo) (h:lo<=x):IntKind.i64.wrap (IntKind.i64.wrap (((x - lo).toNat:Nat):Int)+lo)=x:=by unfold i64 at hm hlo;rw [IntWalk.i64_left,IntWalk.i64_left];unfold wrap64;omega
theorem aYv {n w:Nat} {D:List Nat} (b:V w D<2 ^ (n * w)):V 8 (by_ ((n * w+7) / 8) (V w D))=V w D:=by refine bBo _ _ (Nat.lt_of_lt_of_le b (Nat.pow_le_pow_right (by decide) ?_));generalize n * w=a;omega
theorem bCi {x:Int} {l:List Int} (hl:(x::l).length<=4096) (hi:I64 (x::l)):pP (x::l).length (pk (x::l))=some (x::l,[]):=by
 have hlo:=aKe hi;have hle:=aKu (x:=x) (l:=l);have hw:wdt (ds (mn x l) (x::l))<=64:=by
  have:=aKo hi hlo hle (x::l).length
  rwa [List.take_of_length_le (by rw [vE]; exact Nat.le_refl _)] at this
 have hL:=aT3 (ds (mn x l) (x::l));have a:=aVn hL;rw [vE] at a;unfold pP;simp only [pk];generalize wdt (ds (mn x l) (x::l))=w at hw hL a ⊢;rw [List.append_assoc,aM8 hlo];simp only [List.singleton_append,pB,Int.toNat_natCast];have c:=aYv a;rw [aWi,c,if_pos ⟨by omega,by rw [aDp,tO],a⟩];congr 2;refine aPu (by simp [rE]) λj b=>?_;rw [List.length_map,rE] at b;have hx:=List.getElem?_eq_getElem b;have hm:=hi.get hx;have d:=hle _ (List.mem_of_getElem? hx);rw [List.getElem?_map,aE2 b,aXg hL (aOv hx),hx];simp only [Option.map_some,Option.some.injEq];exact aVf hm hlo d
theorem aVm {w:Nat} {l:List Int} (hw:w<4) (hl:l.length<=4096) (hi:I64 l):vB (asL w l)=some l:=by
 unfold vB aF1 asL;simp only [pB];rw [if_pos (by omega),aH3 (by omega) _ (by omega)];simp only [Int.toNat_natCast];have key:aJ4 (w:Int) l.length (body w l)=some (l,[]):=by
  unfold aJ4
  match w,hw with
  | 0,_ =>
   rw [if_pos (by rfl)];have:=aMk l [] hi
   rwa [List.append_nil] at this
  | 1,_ =>
   rw [if_neg (by decide),if_pos (by rfl)];have:=aXb l [] 0 hi
   rwa [List.append_nil] at this
  | 2,_ =>
   rw [if_neg (by decide),if_neg (by decide),if_pos (by rfl)];have:=aWz l.length l [] hi (Nat.le_refl _) hl
   rwa [List.append_nil] at this
  | 3,_ =>
   rw [if_neg (by decide),if_neg (by decide),if_neg (by decide)];cases l with
   | nil=>rfl
   | cons x l=>rw [if_pos (by simp)]; exact bCi hl hi
 rw [key]
theorem aDr (a b:List Int):iR a b=a\/iR a b=b:=by
 unfold iR;split
 ·exact .inr rfl
 ·exact .inl rfl
theorem aDs (a b:List Int):(iR a b).length<=a.length/\(iR a b).length<=b.length:=by unfold iR;split <;> omega
theorem aIp (l:List Int):∃ w<4,fX l=asL w l:=by
 unfold fX;rcases aDr (iR (iR (asL 0 l) (asL 1 l)) (asL 2 l)) (asL 3 l) with h | h
 ·rw [h];rcases aDr (iR (asL 0 l) (asL 1 l)) (asL 2 l) with h | h
  ·rw [h];rcases aDr (asL 0 l) (asL 1 l) with h | h
   ·exact⟨0,by decide,h⟩
   ·exact⟨1,by decide,h⟩
  ·exact⟨2,by decide,h⟩
 ·exact⟨3,by decide,h⟩
theorem aUi (l:List Int) {w:Nat} (hw:w<4):(fX l).length<=(asL w l).length:=by
 have a:=aDs (iR (iR (asL 0 l) (asL 1 l)) (asL 2 l)) (asL 3 l);have b:=aDs (iR (asL 0 l) (asL 1 l)) (asL 2 l);have c:=aDs (asL 0 l) (asL 1 l);unfold fX
 match w,hw with
 | 0,_=>omega
 | 1,_=>omega
 | 2,_=>omega
 | 3,_=>omega
theorem zY {l:List Int} (hl:l.length<=4096) (hi:I64 l):vB (fX l)=some l:=by obtain⟨w,hw,e⟩:=aIp l;rw [e,aVm hw hl hi]
theorem Bs.ofN {D:List Nat} (h:Lt 8 D):Bs (ofN D):=by intro b hb;obtain⟨d,hd,rfl⟩:=List.mem_map.1 hb;have:=h d hd;omega
theorem aXx:∀ (l:List Int),Bs (b0 l)
 | []=>Bs.nil
 | x::l=>by
  have e:b0 (x::l)=uv (zz x)++b0 l:=by simp [b0]
  rw [e];exact (Bs.uv _).app (aXx l)
theorem aXw:∀ (l:List Int) (a:Int),Bs (bD a l)
 | [],_=>Bs.nil
 | x::l,a=>(Bs.uv _).app (aXw l x)
theorem aT5:∀ (l:List Int) (k:Nat),Bs (bR k l)
 | [],_=>Bs.nil
 | [x],k=>(Bs.uv _).app (Bs.uv _)
 | x::y::l,k=>by
  unfold bR;split
  ·exact aT5 (y::l) _
  ·exact ((Bs.uv _).app (Bs.uv _)).app (aT5 (y::l) _)
theorem bA9 {l:List Int} (hi:I64 l):Bs (pk l):=by
 cases l with
 | nil=>exact Bs.nil
 | cons x l =>
  have hlo:=aKe hi;have hle:=aKu (x:=x) (l:=l);have hw:wdt (ds (mn x l) (x::l))<=64:=by
   have:=aKo hi hlo hle (x::l).length
   rwa [List.take_of_length_le (by rw [vE]; exact Nat.le_refl _)] at this
  exact ((Bs.uv _).app (Bs.mk (by omega) Bs.nil)).app (Bs.ofN (bA5 _ _))
theorem bB8 {w:Nat} {l:List Int} (hw:w<4) (hi:I64 l):Bs (asL w l):=by
 refine Bs.mk (by omega) ((Bs.uv _).app ?_)
 match w,hw with
 | 0,_=>exact aXx l
 | 1,_=>exact aXw l 0
 | 2,_=>exact aT5 l 0
 | 3,_=>exact bA9 hi
theorem aY9 {l:List Int} (hl:l.length<=4096) (hi:I64 l):(pk l).length<=11+(l.length * 64+7) / 8:=by
 cases l with
 | nil=>simp [pk]
 | cons x l =>
  have hlo:=aKe hi;have hle:=aKu (x:=x) (l:=l);have hw:wdt (ds (mn x l) (x::l))<=64:=by
   have:=aKo hi hlo hle (x::l).length
   rwa [List.take_of_length_le (by rw [vE]; exact Nat.le_refl _)] at this
  have hz:=aM (wF hlo);have:=Nat.mul_le_mul_left (x::l).length hw;simp only [pk,List.length_append,List.length_singleton,aDp,tO];generalize (x::l).length=n at *;omega
theorem aYo {w:Nat} {l:List Int} (hw:w<4) (hl:l.length<=4096) (hi:I64 l):(asL w l).length<=1048576:=by
 have hu:=aM (n:=l.length) (by omega);unfold asL;simp only [List.length_cons,List.length_append]
 match w,hw with
 | 0,_=>have:=aLr hi; simp only [body]; omega
 | 1,_=>have:=aNt l 0; simp only [body]; omega
 | 2,_=>have:=aNx l 0 hi (by omega); simp only [body]; omega
 | 3,_=>have:=aY9 hl hi; simp only [body]; omega
end Go.Proofs.YtdkpjpoajlmmfaaGreatDoor.P
