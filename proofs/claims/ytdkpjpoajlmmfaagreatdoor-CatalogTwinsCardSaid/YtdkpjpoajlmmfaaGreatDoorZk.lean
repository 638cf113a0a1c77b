/- Texts of the claim, joined: what it uses of Dc0, Mc0, DlCatalogTwins, MlCatalogTwins, LCatalogTwins, DlCatalogScans, DlCatalogPlays, DlCatalogSpoilt, DlCatalogFalls, Qa, Qb, Qc, Qd, Qe, Qf, Qg. -/
import Derived.Test.YtdkpjpoajlmmfaaGreatDoorZj
import Derived.Test.YtdkpjpoajlmmfaaGreatDoorCards
import Derived.Test.YtdkpjpoajlmmfaaGreatDoorTie
import Derived.SevenTiedAt
import Derived.LaidMore
import Derived.OpenShut
import Derived.Stop.Joined
import Derived.ProofKit
import Derived.IntWalk
namespace Go.Proofs.YtdkpjpoajlmmfaaGreatDoor.M
open Go Go.RowKit Go.Proofs.YtdkpjpoajlmmfaaGreatDoor.E
set_option linter.unusedVariables false
noncomputable section
set_option linter.unusedSimpArgs false
def aAz (z:(List S61)):Option ((List S61)) :=
  some z
def yA (z:(List S61)):Option ((List S61)) :=
  aAz z
def rV (z:Int) (C:(List S61)):Option (((List S61)×Int)⊕(((List S61)))) :=
  ltt (IntKind.i64.wrap (z+1)) λG=>(some (.inl (C,G)))
def sK (a0:(List S61)) (a1:Int) (C:(List S61)) (G:Int) (J:Bool):Option (((List S61)×Int)⊕(((List S61)))) :=
  if J=true then ((at_ a0 G).bind λz=>(ltt (IntKind.u64.wrap (C.length:Int)) λI=>((aEq (⟨I,z.f1,z.f2,z.f3,z.f4⟩:S61) a1).bind λN=>(if N=true then (chk (C.length+[(⟨I,z.f1,z.f2,z.f3,z.f4⟩:S61)].length<=140737488355328 / 48) (rV G (C++[(⟨I,z.f1,z.f2,z.f3,z.f4⟩:S61)]))) else (rV G C))))) else (some (.inr (C)))
def nJ (a0:(List S61)) (a1:Int) (C:(List S61)) (z:Int):Option (((List S61)×Int)⊕(((List S61)))) :=
  if (decide (z<(a0.length:Int)))=true then (sK a0 a1 C z (decide (z<250))) else (sK a0 a1 C z false)
def aAn (a0:(List S61)) (a1:Int):Option ((List S61)) :=
  (loop (λs=>nJ a0 a1 s.1 s.2) ([],0)).bind λt=>yA t
def oR (S:(List S98)) (U:Int) (X:Int) (Y:Bool) (a0:Int) (C:Int) (G:(List S46)) (I:Bool):Option (Bool) :=
  if I=true then (some false) else ((eI (⟨(),C,G⟩:S79)).bind λz=>(if ((z.1.length:Int)==1)=true then ((at_ z.1 0).bind λJ=>(if (J.f0==[115,101,103,46,48,46,50,48])=true then ((eV z.2).bind λN=>(some (N.1==20))) else (some false))) else (some false)))
def vC (J:((Option S79)×Int×S77)) (N:S79) (I:(List S61)):Option (Bool) :=
  (kX I 0 10).bind λS=>((bU N S J.2.2).bind λz=>(if (z.1 != 0)=true then (oR z.2.2.f0 z.2.2.f1 z.2.2.f2 z.2.2.f3 z.2.2.f4 z.2.1.f1 z.2.1.f2 true) else ((kX I 10 (I.length:Int)).bind λU=>((bU z.2.1 U z.2.2).bind λC=>(if (C.1 != 0)=true then (oR C.2.2.f0 C.2.2.f1 C.2.2.f2 C.2.2.f3 C.2.2.f4 C.2.1.f1 C.2.1.f2 true) else ((bO C.2.1 0 C.2.2).bind λG=>(oR G.2.2.f0 G.2.2.f1 G.2.2.f2 G.2.2.f3 G.2.2.f4 G.2.1.f1 G.2.1.f2 (G.1 != 0))))))))
def rR (z:((Option S79)×Int×S77)) (C:S79) (G:(List S61)):Option (Bool) :=
  vC z C G
def iY (C:(List S61)) (z:Int):Option (((List S61)×Int)⊕(((List S61)))) :=
  if (decide (z<20))=true then (ltt (IntKind.u64.wrap z) λG=>(chk (C.length+[(⟨G,0,z,[],0⟩:S61)].length<=140737488355328 / 48) (ltt (IntKind.i64.wrap (z+1)) λI=>(some (.inl (C++[(⟨G,0,z,[],0⟩:S61)],I)))))) else (some (.inr (C)))
def wG:Option (Bool) :=
  (vQ 65536).bind λC=>((C.1).bind λG=>((nI G 1).bind λz=>((z.1).bind λI=>(if (z.2.1 != 0)=true then (some false) else ((loop (λs=>iY s.1 s.2) ([],0)).bind λt=>rR z I t)))))
end
set_option maxRecDepth 100000
set_option maxHeartbeats 4000000
set_option linter.unusedSimpArgs false
section
variable {r:World} {L:List HP} {w:World} {Z:Nat->Prop} {wz:World}
theorem aMr {a0 a1 A0 n0 c0 y} (G:aAn a0 a1=some y) (X:SH r (L) w) (ha0:RdL L k61 A0 n0 c0 a0) :
  Ret Tryz.prog 9 #[.slice A0 n0 c0,.int .i64 a1] w λv w'=>∃ (B0:Option Addr) (m0:Nat) (d0:Nat),v=.slice B0 m0 d0/\SH r (own k61 61 B0 m0 d0 y::L) w':=by
 refine enter Tryz.func9 rfl Tryz.ntmps9 [(0,_),(1,_)] rfl (by simp) ?_;intro U J Qf hQ hQn;unfold aAn at G;refine nz 1 J rfl λU J=>nz 1 J rfl λU J=>wp_seq_k λg1 c9=>nz 1 J rfl λU J=>aA λc6 d1=>?_;have hb1:∀b7,aAz b7=some y->∀a5 a6 a7 U w,FR 34 [] U [(5,.slice a5 a6 a7)]->SH r (own k61 61 a5 a6 a7 b7::L) w->c6 U w:=by intro b7 G a5 a6 a7 U w J X;unfold aAz at G;refine d1 _ _ (c9 _ _ ?_);refine nz 2 J rfl λU J=>?_;cases G;refine wp_ret (hQ _ _ ?_);exact lv Tryz.results9 J rfl ⟨a5,a6,a7,rfl,X⟩
 obtain⟨d2,d3,G⟩:=bnd G;have d4:∀a4,(a4)=d2->∀a8 a9 b3 U w,FR 34 [] U [(5,.slice a8 a9 b3)]->SH r (own k61 61 a8 a9 b3 a4::L) w->c6 U w:=by intro a4 ht a8 a9 b3 U w J X;subst ht;replace G:yA a4=some y:=G;unfold yA at G;exact hb1 a4 G a8 a9 b3 U w (J.sub _ rfl) X
 replace X:=SH.nil_own (d:=k61) (e:=61) X;refine aT d3 (λs U w=>∃C I N,FR 34 [] U [(0,.slice A0 n0 c0),(1,.int .i64 a1),(5,.slice C I N),(6,.int .i64 s.2)]/\SH r (own k61 61 C I N s.1::L) w) ⟨none,0,0,J.sub _ rfl,X⟩ ?_;intro g2 d5 b8 G d6 d7 U w hLab;obtain⟨Y,a3⟩:=d5;replace G:nJ a0 a1 Y a3=some b8:=G;unfold nJ at G
 try dsimp only at hLab
 obtain⟨C,I,N,J,X⟩:=hLab;refine wp_seq_k λg3 d8=>wp_seq_k λd9 e1=>?_;have hj1:∀b9,sK a0 a1 Y a3 b9=some b8->∀U w,FR 34 [] U [(0,.slice A0 n0 c0),(1,.int .i64 a1),(5,.slice C I N),(6,.int .i64 a3),(15,.bool b9)]->SH r (own k61 61 C I N Y::L) w->d9 U w:=by
  intro b9 G U w J X;unfold sK at G;refine e1 _ _ (aX J G rfl (λe2 G=>?_) λe2 G=>?_)
  ·refine wp_skip (d8 _ _ ?_);refine wp_seq_k λg4 e3=>aA λe4 e5=>?_;have hb2:∀c4,rV a3 c4=some b8->∀b4 b5 b6 U w,FR 34 [] U [(0,.slice A0 n0 c0),(1,.int .i64 a1),(5,.slice b4 b5 b6),(6,.int .i64 a3)]->SH r (own k61 61 b4 b5 b6 c4::L) w->e4 U w:=by intro c4 G b4 b5 b6 U w J X;unfold rV at G;refine e5 _ _ (e3 _ _ ?_);refine aD (x_m J rfl λU J=>?_);refine x_l G J rfl λg5 _ U J G=>x_m J rfl λU J=>wpList_nil ?_;cases G;exact⟨_,d6 _ rfl,b4,b5,b6,J.sub _ rfl,X⟩
   refine ws λg6 e6=>xk 2 J rfl λU J=>?_;obtain⟨z,c7,G⟩:=bnd G;refine fK jH jX (X.rdl 1 ha0 rfl) c7 J (λU J=>?_) rfl;obtain⟨cs,hV,e7⟩:=el (X.rdl 1 ha0 rfl) c7;obtain rfl:=hV;refine iL (cs:=[.int .u64 z.f0,.int .i64 z.f1,.int .i64 z.f2,str z.f3,.float .f64 z.f4]) aFc jX (λj u h=>by rw [iD]; exact e7 _ _ h) J (λU J=>?_) rfl;refine eY (cs:=[.int .u64 0,.int .i64 0,.int .i64 0,str [],.float .f64 0]) aOj J X (λc8 U w X J=>?_) rfl;refine eH 0 jX J X rfl (λU w X J=>?_) rfl;refine wn (e6 _ _ ?_);refine ws λg7 e8=>xk 1 J rfl λU J=>aW jH (X.rd 1 rfl).2.1 J (λU J=>?_) rfl;refine eP G J (aQ uu3 bS rfl (J.ev rfl)) rfl λS _ U J G=>aO mZ J (λU J=>?_) rfl;refine eH 0 aQt J X rfl (λU w X J=>?_) rfl;refine wn (e8 _ _ ?_);refine ws λg8 e9=>iL (ad:=⟨c8,0,none⟩) (cs:=[.int .u64 S,.int .i64 z.f1,.int .i64 z.f2,str z.f3,.float .f64 z.f4]) aFc jX (λj u h=>by rw [gM,Nat.zero_add]; exact X.cell 0 rfl j u h) J (λU J=>?_) rfl;refine x_m J rfl λU J=>?_;obtain⟨g9,f5,G⟩:=bnd G;refine x_c bEx J rfl (aNg f5 X :) λv U w hR J=>?_;obtain⟨rfl,X⟩:=hR;refine wn (e9 _ _ ?_);refine aX J G rfl (λf6 G=>?_) λf6 G=>?_
   ·refine aD (x_m J rfl λU J=>?_);refine iL (ad:=⟨c8,0,none⟩) (cs:=[.int .u64 S,.int .i64 z.f1,.int .i64 z.f2,str z.f3,.float .f64 z.f4]) aFc jX (λj u h=>by rw [gM,Nat.zero_add]; exact X.cell 0 rfl j u h) J (λU J=>?_) rfl;refine kV (d:=k61) (e:=61) (ps:=#[(0,.agg #[.int .u64 S,.int .i64 z.f1,.int .i64 z.f2,str z.f3,.float .f64 z.f4])]) (cells:=[.int .u64 S,.int .i64 z.f1,.int .i64 z.f2,str z.f3,.float .f64 z.f4]) (xs:=[(⟨S,z.f1,z.f2,z.f3,z.f4⟩:S61)]) (λw=>by kernel_rfl) rfl ⟨[.int .u64 S,.int .i64 z.f1,.int .i64 z.f2,str z.f3,.float .f64 z.f4],_,rfl,rfl,rfl⟩ J X (λh1 U w X J=>?_) rfl;obtain⟨f7,G⟩:=aC G;have hr:=X.rd 0 rfl;refine lI 2 aLx jH J X hr.1 hr.2.1 f7 rfl (λf8 f9 g0 U w X J=>?_) rfl;refine x_m J rfl λU J=>wpList_nil ?_;replace X:=X.drop 1 |>.drop 1;exact hb2 (Y++[(⟨S,z.f1,z.f2,z.f3,z.f4⟩:S61)]) G f8 f9 g0 U w (J.sub _ rfl) X
   replace X:=X.drop 0;exact wp_skip (hb2 Y G C I N U w (J.sub _ rfl) X)
  cases G;exact wp_exit (d4 Y (d7 _ rfl) C I N U w (J.sub _ rfl) X)
 refine aD (xk 2 J rfl λU J=>?_);refine aW jH (X.rdl 1 ha0 rfl).2.1 J (λU J=>?_) rfl;refine xk 2 J rfl λU J=>bcG G (λc5 G=>?_) λc5 G=>?_
 ·exact ng 3 c5 J rfl rfl λU J=>hj1 (decide (a3<250)) G U w (J.sub _ rfl) X
 exact ng 3 c5 J rfl rfl λU J=>hj1 false G U w (J.sub _ rfl) X
theorem aIr {y} (G:wG=some y) (X:SH r (zone Z wz::L) w) (hG0:Imm Z wz (kI .u32) (some ⟨0,0,none⟩) 16 16 bX) (hG2:Gb Z wz 2 .u64 bK) :
  Ret Tryz.prog 8 #[] w λv w'=>∃ (Z':Nat->Prop) (wz':World),v=.bool y/\Sub Z wz Z' wz'/\SH r (zone Z' wz'::L) w':=by
 refine enter Tryz.func8 rfl Tryz.ntmps8 [] rfl (by simp) ?_;intro U J Qf hQ hQn;unfold wG at G;refine nz 1 J rfl λU J=>ws λo9 h2=>?_;obtain⟨p0,h3,G⟩:=bnd G;refine x_c aZm J rfl (aBv h3 X :) λv U w hR J=>?_;obtain⟨p4,rfl,X⟩:=hR;refine xk 4 J rfl λU J=>?_;obtain⟨h4,h5,G⟩:=bnd G;rw [h5] at X;have hU:=SH.unoptS X;clear X;obtain⟨a1,hP0,hS0⟩:=hU;subst hP0;replace X:=hS0;clear hS0;obtain⟨p5,p6,p7,X⟩:=aG X;refine x_m J rfl λU J=>wn (h2 _ _ ?_);refine ws λp8 h6=>xk 1 J rfl λU J=>?_;replace X:=(aF (x:=h4) (X.pk 1 |>.pk 1)).pk 1 |>.pk 1;obtain⟨z,h7,G⟩:=bnd G;refine x_c aYi J rfl (yS h7 X hG0 hG2 :) λv U w hR J=>?_;obtain⟨c8,c9,p9,rfl,C,X⟩:=hR;obtain⟨b3,b4,b5,X⟩:=aG (X.pk 1);refine xk 4 J rfl λU J=>?_;replace X:=X.pk 2;obtain⟨I,h8,G⟩:=bnd G;rw [h8] at X;have hU:=SH.unoptS X;clear X;obtain⟨a3,hP0,hS0⟩:=hU;subst hP0;replace X:=hS0;clear hS0;obtain⟨b6,b7,b8,X⟩:=aY X;refine x_m J rfl λU J=>wn (h6 _ _ ?_);refine wp_seq_k λq0 h9=>nz 2 J rfl λU J=>aX J G rfl (λi0 G=>?_) λi0 G=>?_
 ·refine nz 1 J rfl λU J=>?_;replace X:=X.drop 0 |>.drop 0 |>.drop 0 |>.drop 0;cases G;refine wp_ret (hQ _ _ ?_);exact lv Tryz.results8 J rfl ⟨c8,c9,rfl,C,X⟩
 refine wp_skip (h9 _ _ ?_);refine nz 1 J rfl λU J=>wp_seq_k λq1 i1=>nz 1 J rfl λU J=>aA λg6 i2=>?_;have hb1:∀e5,vC z I e5=some y->∀d0 d1 d2 U w,FR 64 [] U [(3,(pP a3)),(5,.slice d0 d1 d2)]->SH r (blk a3 79 [.pointer (some ⟨a1,0,none⟩),.int .i64 I.f1,.slice b6 b7 b8]::blk a1 77 [.slice b3 b4 b5,.int .i64 z.2.2.f1,.int .i64 z.2.2.f2,.bool z.2.2.f3,.int .i64 z.2.2.f4]::own2 kp98 (kI .u8) 5 (λx:S98=>x.f1) 98 b3 b4 b5 z.2.2.f0::own k46 46 b6 b7 b8 I.f2::own k61 61 d0 d1 d2 e5::zone c8 c9::L) w->g6 U w:=by
  intro e5 G d0 d1 d2 U w J X;unfold vC at G;refine i2 _ _ (i1 _ _ ?_);refine wp_seq_k λq2 i3=>wp_seq_k λi4 i5=>?_;have hj1:∀e6 e7 e8 e9 f5 d3 d4 f6,oR e6 e7 e8 e9 f5 d3 d4 f6=some y->∀a6 a7 f7 f8 f9 g0 g1 g2 (c4:Sub Z wz a6 a7) U w,FR 64 [] U [(3,(pP a3)),(46,.bool f6)]->SH r (blk a3 79 [.pointer (some ⟨a1,0,none⟩),.int .i64 d3,.slice g0 g1 g2]::blk a1 77 [.slice f7 f8 f9,.int .i64 e7,.int .i64 e8,.bool e9,.int .i64 f5]::own2 kp98 (kI .u8) 5 (λx:S98=>x.f1) 98 f7 f8 f9 e6::own k46 46 g0 g1 g2 d4::zone a6 a7::L) w->i4 U w:=by
   intro e6 e7 e8 e9 f5 d3 d4 f6 G a6 a7 f7 f8 f9 g0 g1 g2 c4 U w J X;unfold oR at G;refine i5 _ _ (aX J G rfl (λi6 G=>?_) λi6 G=>?_)
   ·refine nz 1 J rfl λU J=>?_;replace X:=X.drop 0 |>.drop 0 |>.drop 0 |>.drop 0;cases G;refine wp_ret (hQ _ _ ?_);exact lv Tryz.results8 J rfl ⟨a6,a7,rfl,c4,X⟩
   refine wp_skip (i3 _ _ ?_);refine ws λq3 i7=>xk 1 J rfl λU J=>?_;replace X:=X.pk 3 |>.pk 1;replace X:=aV (x:=(⟨(),d3,d4⟩:S79)) X;obtain⟨i8,i9,G⟩:=bnd G;refine x_c bD2 J rfl (yW i9 X :) λv U w hR J=>?_;obtain⟨q4,q5,q6,rfl,X⟩:=hR;obtain⟨q7,q8,q9,X⟩:=aY (X.pk 1);refine x_m J rfl λU J=>wn (i7 _ _ ?_);refine ws λr0 g3=>xk 1 J rfl λU J=>aW iC (X.rd 2 rfl).2.1 J (λU J=>?_) rfl;refine xk 2 J rfl λU J=>bcG G (λa4 G=>?_) λa4 G=>?_
   ·refine xg 1 a4 J rfl rfl λU J=>aN a4 J ?_ rfl;obtain⟨r1,g7,G⟩:=bnd G;refine fK iC jG (X.rd 2 rfl) g7 J (λU J=>?_) rfl;refine aN a4 J ?_ rfl;refine aS2 (m:=(0:Int).toNat * 5) aHk J (λU J=>?_) rfl rfl rfl rfl rfl;refine aN a4 J ?_ rfl;obtain⟨cs,hV,j0⟩:=el (X.rd 2 rfl) g7;obtain rfl:=hV;refine aM uu9 (j0 0 _ rfl) J (λU J=>?_) rfl;refine aN a4 J ?_ rfl;refine x_v J (aMs rfl (J.ev rfl) (J.ev rfl)) rfl λU J=>xg 2 a4 J rfl rfl λU J=>bcG G (λc5 G=>?_) λc5 G=>?_
    ·refine xg 1 c5 J rfl rfl λU J=>aN c5 J ?_ rfl;replace X:=aV (x:=i8.2) (X.pk 1 |>.pk 1);obtain⟨r2,j1,G⟩:=bnd G;refine x_c aV3 J rfl (nQ j1 X :) λv U w hR J=>?_;obtain⟨rfl,X⟩:=hR;obtain⟨r3,r4,r5,X⟩:=aY X;refine ng 3 c5 J rfl rfl λU J=>?_;replace X:=X.drop 0 |>.drop 0 |>.drop 0 |>.drop 0 |>.drop 0;cases G;refine g3 _ _ (wp_ret ?_);refine hQ _ _ (lv Tryz.results8 J rfl ?_);exact⟨a6,a7,rfl,c4,X⟩
    refine ng 5 c5 J rfl rfl λU J=>?_;replace X:=X.drop 0 |>.drop 0 |>.drop 0 |>.drop 0 |>.drop 0;cases G;refine g3 _ _ (wp_ret ?_);refine hQ _ _ (lv Tryz.results8 J rfl ?_);exact⟨a6,a7,rfl,c4,X⟩
   refine xg 7 a4 J rfl rfl λU J=>xO 3 rfl J rfl λU J=>cD rfl J (λU J=>?_) rfl;refine x_m J rfl λU J=>wn (g3 _ _ ?_);replace X:=X.drop 0 |>.drop 0 |>.drop 0 |>.drop 0 |>.drop 0;cases G;refine wp_ret (hQ _ _ ?_);exact lv Tryz.results8 J rfl ⟨a6,a7,rfl,c4,X⟩
  refine aD (xk 2 J rfl λU J=>?_);replace X:=X.pk 5 |>.pk 5;obtain⟨r6,r7,X,d5,N⟩:=SH.freeze (n:=d1) (c:=d2) (A:=d0) X;obtain⟨r8,g4,G⟩:=bnd G;obtain⟨j2,j3,j4,j5,g8⟩:=aJ5 d5 g4;refine x_v (v:=.slice j2 j3 j4) J (aD7 j5 (oU jH jX rfl (J.ev rfl) (J.ev rfl) (oH (X.imm 0 d5 rfl) g4).2.2.2.2.1 (oH (X.imm 0 d5 rfl) g4).2.2.1)) rfl λU J=>?_;replace X:=(aF (x:=z.2.2) ((aV (x:=I) (X.pk 4 |>.pk 2)).pk 3 |>.pk 3)).pk 2 |>.pk 1 |>.pk 2;obtain⟨S,j6,G⟩:=bnd G;refine x_c aWh J rfl (lM j6 X g8 (Imm.sub hG0 (Sub.trans C N)) (Gb.sub hG2 (Sub.trans C N)) :) λv U w hR J=>?_;obtain⟨j7,j8,rfl,Y,X⟩:=hR;have d6:=Imm.sub d5 Y;have j9:=Imm.sub g8 Y;obtain⟨k0,k1,k2,X⟩:=aY X;obtain⟨k3,k4,k5,X⟩:=aG (X.pk 2);refine xk 2 J rfl λU J=>bcG G (λb9 G=>?_) λb9 G=>?_
  ·refine xg 7 b9 J rfl rfl λU J=>xO 3 rfl J rfl λU J=>oQ rfl J (λU J=>?_) rfl;refine wpList_nil ?_;replace X:=X.pk 4 |>.pk 4 |>.pk 3 |>.pk 3 |>.pk 4;exact hj1 S.2.2.f0 S.2.2.f1 S.2.2.f2 S.2.2.f3 S.2.2.f4 S.2.1.f1 S.2.1.f2 true G j7 j8 k3 k4 k5 k0 k1 k2 (Sub.trans (Sub.trans C N) Y) U w (J.sub _ rfl) X
  refine xg 2 b9 J rfl rfl λU J=>aN b9 J ?_ rfl;obtain⟨r9,g5,G⟩:=bnd G;obtain⟨k6,k7,k8,k9,g9⟩:=aGq d6 g5;refine x_v (v:=.slice k6 k7 k8) J (aD7 k9 (lX jH jX rfl (J.ev rfl) (J.ev rfl) (oH (X.imm 4 d6 rfl) g5).1 (oH (X.imm 4 d6 rfl) g5).2.2.2.2.2)) rfl λU J=>aN b9 J ?_ rfl;replace X:=(aF (x:=S.2.2) ((aV (x:=S.2.1) (X.pk 3 |>.pk 3)).pk 2 |>.pk 2)).pk 2 |>.pk 1 |>.pk 2;obtain⟨a0,l0,G⟩:=bnd G;refine x_c aWh J rfl (lM l0 X g9 (Imm.sub hG0 (Sub.trans (Sub.trans C N) Y)) (Gb.sub hG2 (Sub.trans (Sub.trans C N) Y)) :) λv U w hR J=>?_;obtain⟨l1,l2,rfl,a8,X⟩:=hR;have l3:=Imm.sub d6 a8;have l4:=Imm.sub j9 a8;have l5:=Imm.sub g9 a8;obtain⟨l6,l7,l8,X⟩:=aY X;obtain⟨l9,m0,m1,X⟩:=aG (X.pk 2);refine xg 3 b9 J rfl rfl λU J=>bcG G (λc6 G=>?_) λc6 G=>?_
  ·refine ng 4 c6 J rfl rfl λU J=>?_;replace X:=X.pk 4 |>.pk 4 |>.pk 3 |>.pk 3 |>.pk 4;exact hj1 a0.2.2.f0 a0.2.2.f1 a0.2.2.f2 a0.2.2.f3 a0.2.2.f4 a0.2.1.f1 a0.2.1.f2 true G l1 l2 l9 m0 m1 l6 l7 l8 (Sub.trans (Sub.trans (Sub.trans C N) Y) a8) U w (J.sub _ rfl) X
  refine xg 1 c6 J rfl rfl λU J=>aN c6 J ?_ rfl;replace X:=(aF (x:=a0.2.2) ((aV (x:=a0.2.1) (X.pk 3 |>.pk 3)).pk 2 |>.pk 2)).pk 2 |>.pk 1 |>.pk 2;obtain⟨a5,m2,G⟩:=bnd G;refine x_c aYc J rfl (mU m2 X (Imm.sub hG0 (Sub.trans (Sub.trans (Sub.trans C N) Y) a8)) (Gb.sub hG2 (Sub.trans (Sub.trans (Sub.trans C N) Y) a8)) :) λv U w hR J=>?_;obtain⟨m3,m4,rfl,d7,X⟩:=hR;have s2:=Imm.sub l3 d7;have s3:=Imm.sub l4 d7;have s4:=Imm.sub l5 d7;obtain⟨m5,m6,m7,X⟩:=aY X;obtain⟨m8,m9,n0,X⟩:=aG (X.pk 2);refine ng 2 c6 J rfl rfl λU J=>?_;replace X:=X.pk 4 |>.pk 4 |>.pk 3 |>.pk 3 |>.pk 4;exact hj1 a5.2.2.f0 a5.2.2.f1 a5.2.2.f2 a5.2.2.f3 a5.2.2.f4 a5.2.1.f1 a5.2.1.f2 (a5.1 != 0) G m3 m4 m8 m9 n0 m5 m6 m7 (Sub.trans (Sub.trans (Sub.trans (Sub.trans C N) Y) a8) d7) U w (J.sub _ rfl) X
 obtain⟨n4,n5,G⟩:=bnd G;have n6:∀c7,(c7)=n4->∀d8 d9 e1 U w,FR 64 [] U [(3,(pP a3)),(5,.slice d8 d9 e1)]->SH r (blk a3 79 [.pointer (some ⟨a1,0,none⟩),.int .i64 I.f1,.slice b6 b7 b8]::blk a1 77 [.slice b3 b4 b5,.int .i64 z.2.2.f1,.int .i64 z.2.2.f2,.bool z.2.2.f3,.int .i64 z.2.2.f4]::own2 kp98 (kI .u8) 5 (λx:S98=>x.f1) 98 b3 b4 b5 z.2.2.f0::own k46 46 b6 b7 b8 I.f2::own k61 61 d8 d9 e1 c7::zone c8 c9::L) w->g6 U w:=by intro c7 ht d8 d9 e1 U w J X;subst ht;replace G:rR z I c7=some y:=G;unfold rR at G;exact hb1 c7 G d8 d9 e1 U w (J.sub _ rfl) X
 replace X:=(SH.nil_own (d:=k61) (e:=61) X).pk 5 |>.pk 1 |>.pk 3 |>.pk 5 |>.pk 5 |>.pk 5;refine aT n5 (λs U w=>∃e2 e3 e4,FR 64 [] U [(3,(pP a3)),(5,.slice e2 e3 e4),(6,.int .i64 s.2)]/\SH r (blk a3 79 [.pointer (some ⟨a1,0,none⟩),.int .i64 I.f1,.slice b6 b7 b8]::blk a1 77 [.slice b3 b4 b5,.int .i64 z.2.2.f1,.int .i64 z.2.2.f2,.bool z.2.2.f3,.int .i64 z.2.2.f4]::own2 kp98 (kI .u8) 5 (λx:S98=>x.f1) 98 b3 b4 b5 z.2.2.f0::own k46 46 b6 b7 b8 I.f2::own k61 61 e2 e3 e4 s.1::zone c8 c9::L) w) ⟨none,0,0,J.sub _ rfl,X⟩ ?_;intro s5 n7 n8 G n9 o0 U w hLab;obtain⟨h1,a9⟩:=n7;replace G:iY h1 a9=some n8:=G;unfold iY at G
 try dsimp only at hLab
 obtain⟨e2,e3,e4,J,X⟩:=hLab;refine wp_seq_k λs6 o1=>nz 2 J rfl λU J=>aX J G rfl (λo2 G=>?_) λo2 G=>?_
 ·refine wp_skip (o1 _ _ ?_);refine wp_seq_k λs7 o3=>aA λs8 o4=>aD (xk 2 J rfl λU J=>?_);refine eP G J (aQ uu3 bS rfl (J.ev rfl)) rfl λc0 _ U J G=>x_m J rfl λU J=>x_v (v:=.agg #[.int .u64 c0,.int .i64 0,.int .i64 a9,str [],.float .f64 0]) J (jL (ps:=#[(0,.int .u64 c0),(2,.int .i64 a9)]) rfl (mB J rfl) (λw=>by kernel_rfl)) rfl λU J=>kV (d:=k61) (e:=61) (ps:=#[(0,.agg #[.int .u64 c0,.int .i64 0,.int .i64 a9,str [],.float .f64 0])]) (cells:=[.int .u64 c0,.int .i64 0,.int .i64 a9,str [],.float .f64 0]) (xs:=[(⟨c0,0,a9,[],0⟩:S61)]) (λw=>by kernel_rfl) rfl ⟨[.int .u64 c0,.int .i64 0,.int .i64 a9,str [],.float .f64 0],_,rfl,rfl,rfl⟩ J X (λs9 U w X J=>?_) rfl;obtain⟨o5,G⟩:=aC G;have hr:=X.rd 0 rfl;refine lI 5 aLx jH J X hr.1 hr.2.1 o5 rfl (λo6 o7 o8 U w X J=>?_) rfl;refine x_m J rfl λU J=>wpList_nil (o4 _ _ ?_);refine o3 _ _ (aD ?_);refine x_m J rfl λU J=>x_l G J rfl λt0 _ U J G=>x_m J rfl λU J=>wpList_nil ?_;replace X:=X.drop 1 |>.pk 5 |>.pk 1 |>.pk 5 |>.pk 5 |>.pk 5 |>.pk 5;cases G;exact⟨_,n9 _ rfl,o6,o7,o8,J.sub _ rfl,X⟩
 cases G;exact wp_exit (n6 h1 (o0 _ rfl) e2 e3 e4 U w (J.sub _ rfl) X)
end
noncomputable section
set_option linter.unusedSimpArgs false
def qX:Option (Bool) :=
  some true
def oY:Option (Bool) :=
  qX
def mK (a0:Int) (z:(List S98)) (C:Int) (G:Int) (I:Bool) (J:Int) (N:(List S98)) (S:Int) (U:Int) (X:Bool) (Y:Int) (a1:Int) (a3:(List S46)) (a4:Int) (a5:(List S46)):Option (((List S98)×Int×Int×Bool×Int×(List S98)×Int×Int×Bool×Int×Int×(List S46)×Int×(List S46)×Int)⊕((Unit)⊕(Bool))) :=
  ltt (IntKind.i64.wrap (a0+1)) λa6=>(some (.inl ((⟨z,C,G,I,J⟩:S77).f0,(⟨z,C,G,I,J⟩:S77).f1,(⟨z,C,G,I,J⟩:S77).f2,(⟨z,C,G,I,J⟩:S77).f3,(⟨z,C,G,I,J⟩:S77).f4,(⟨N,S,U,X,Y⟩:S77).f0,(⟨N,S,U,X,Y⟩:S77).f1,(⟨N,S,U,X,Y⟩:S77).f2,(⟨N,S,U,X,Y⟩:S77).f3,(⟨N,S,U,X,Y⟩:S77).f4,a1,a3,a4,a5,a6)))
def kY (z:Int) (C:(List S98)) (G:Int) (I:Int) (J:Bool) (N:Int) (S:(List S98)) (U:Int) (X:Int) (Y:Bool) (a0:Int) (a1:Int) (a3:(List S46)) (a4:Int) (a5:(List S46)):Option (((List S98)×Int×Int×Bool×Int×(List S98)×Int×Int×Bool×Int×Int×(List S46)×Int×(List S46)×Int)⊕((Unit)⊕(Bool))) :=
  mK z C G I J N S U X Y a0 a1 a3 a4 a5
def jO (z:Int) (C:Bool):Option ((Int)⊕((Unit)⊕(Bool))) :=
  if C=true then (some (.inr (.inr false))) else (ltt (IntKind.i64.wrap (z+1)) λG=>(some (.inl (G))))
def dX (J:(List S98)) (N:Int) (S:Int) (U:Bool) (X:Int) (Y:(List S98)) (a0:Int) (a1:Int) (a3:Bool) (a4:Int) (C:((List (List UInt8)))) (a5:((List (List UInt8)))) (z:Int):Option ((Int)⊕((Unit)⊕(Bool))) :=
  if (decide (z<(C.length:Int)))=true then ((at_ C z).bind λG=>((jT (some (⟨J,N,S,U,X⟩:S77)) G).bind λa6=>((at_ a5 z).bind λI=>((jT (some (⟨Y,a0,a1,a3,a4⟩:S77)) I).bind λa7=>(if (!(G==I))=true then (jO z true) else (jO z (!((bts a6.1)==(bts a7.1))))))))) else (some (.inr (.inl ())))
def jR (a0:Int) (z:(List S98)) (C:Int) (G:Int) (I:Bool) (J:Int) (N:(List S98)) (S:Int) (U:Int) (X:Bool) (Y:Int) (a1:Int) (a3:(List S46)) (a4:Int) (a5:(List S46)) (a6:((List (List UInt8)))) (a7:((List (List UInt8)))) (a8:Bool):Option (((List S98)×Int×Int×Bool×Int×(List S98)×Int×Int×Bool×Int×Int×(List S46)×Int×(List S46)×Int)⊕((Unit)⊕(Bool))) :=
  if a8=true then (some (.inr (.inr false))) else ((loop (λs=>dX z C G I J N S U X Y a6 a7 s) (0)).bind λt=>match t with | (.inl t)=>kY a0 z C G I J N S U X Y a1 a3 a4 a5 | (.inr t)=>some (.inr (.inr t)))
def gY (a3:Int) (z:(List S98)) (C:Int) (G:Int) (I:Bool) (J:Int) (N:(List S98)) (S:Int) (U:Int) (X:Bool) (Y:Int) (a4:Int) (a5:(List S46)) (a8:Int) (a6:Int) (a7:(List S46)) (a9:Int):Option (((List S98)×Int×Int×Bool×Int×(List S98)×Int×Int×Bool×Int×Int×(List S46)×Int×(List S46)×Int)⊕((Unit)⊕(Bool))) :=
  (jU (some (⟨z,C,G,I,J⟩:S77))).bind λa0=>((jU (some (⟨N,S,U,X,Y⟩:S77))).bind λa1=>(if (a8 != a9)=true then (jR a3 z C G I J N S U X Y a4 a5 a6 a7 a0 a1 true) else (jR a3 z C G I J N S U X Y a4 a5 a6 a7 a0 a1 ((a0.length:Int) != (a1.length:Int)))))
def gW (N:((List S61))) (S:(List S98)) (U:Int) (X:Int) (Y:Bool) (a0:Int) (a1:(List S98)) (a3:Int) (a4:Int) (a5:Bool) (a6:Int) (a7:Int) (a8:(List S46)) (a9:Int) (b3:S52) (J:(Int×S79)) (b6:Int):Option (((List S98)×Int×Int×Bool×Int×(List S98)×Int×Int×Bool×Int×Int×(List S46)×Int×(List S46)×Int)⊕((Unit)⊕(Bool))) :=
  ltt (b3.f0.tmod 4) λb7=>(if (decide (b7<3))=true then (ltt (IntKind.u64.wrap (J.1+b6)) λb4=>((kX N J.1 b4).bind λb8=>((bU J.2 b8 (⟨S,U,X,Y,a0⟩:S77)).bind λz=>((kX N J.1 b4).bind λb9=>((bU (⟨(),a7,a8⟩:S79) b9 (⟨a1,a3,a4,a5,a6⟩:S77)).bind λC=>(gY a9 z.2.2.f0 z.2.2.f1 z.2.2.f2 z.2.2.f3 z.2.2.f4 C.2.2.f0 C.2.2.f1 C.2.2.f2 C.2.2.f3 C.2.2.f4 z.2.1.f1 z.2.1.f2 z.1 C.2.1.f1 C.2.1.f2 C.1)))))) else (ltt (b3.f1.tmod 4) λc0=>(ltt (IntKind.i64.wrap c0) λb5=>((bO J.2 b5 (⟨S,U,X,Y,a0⟩:S77)).bind λG=>((bO (⟨(),a7,a8⟩:S79) b5 (⟨a1,a3,a4,a5,a6⟩:S77)).bind λI=>(gY a9 G.2.2.f0 G.2.2.f1 G.2.2.f2 G.2.2.f3 G.2.2.f4 I.2.2.f0 I.2.2.f1 I.2.2.f2 I.2.2.f3 I.2.2.f4 G.2.1.f1 G.2.1.f2 G.1 I.2.1.f1 I.2.1.f2 I.1))))))
def gU (a1:(List S52)) (z:((List S61))) (J:(List S98)) (N:Int) (S:Int) (U:Bool) (X:Int) (Y:(List S98)) (a0:Int) (a3:Int) (a4:Bool) (a5:Int) (b3:Int) (b4:(List S46)) (a6:Int) (a7:(List S46)) (C:Int) (b5:Bool):Option (((List S98)×Int×Int×Bool×Int×(List S98)×Int×Int×Bool×Int×Int×(List S46)×Int×(List S46)×Int)⊕((Unit)⊕(Bool))) :=
  if b5=true then ((at_ a1 C).bind λG=>((eV (⟨(),b3,b4⟩:S79)).bind λI=>(ltt (G.f1.tmod 30) λb6=>(ltt (IntKind.u64.wrap b6) λa8=>(ltt (IntKind.u64.wrap (z.length:Int)) λb7=>(ltt (IntKind.u64.wrap (b7 - I.1)) λa9=>(if (decide (a9<a8))=true then (gW z J N S U X Y a0 a3 a4 a5 a6 a7 C G I a9) else (gW z J N S U X Y a0 a3 a4 a5 a6 a7 C G I a8)))))))) else (some (.inr (.inl ())))
def fI (a1:(List S52)) (C:((List S61))) (G:(List S98)) (I:Int) (J:Int) (N:Bool) (S:Int) (U:(List S98)) (X:Int) (Y:Int) (a0:Bool) (a3:Int) (a4:Int) (a5:(List S46)) (a6:Int) (a7:(List S46)) (z:Int):Option (((List S98)×Int×Int×Bool×Int×(List S98)×Int×Int×Bool×Int×Int×(List S46)×Int×(List S46)×Int)⊕((Unit)⊕(Bool))) :=
  if (decide (z<(a1.length:Int)))=true then (gU a1 C G I J N S U X Y a0 a3 a4 a5 a6 a7 z (decide (z<20))) else (gU a1 C G I J N S U X Y a0 a3 a4 a5 a6 a7 z false)
def jN (a1:(List S52)) (J:((List S61))) (z:((Option S79)×Int×S77)) (G:S79) (C:((Option S79)×Int×S77)) (I:S79) (N:Bool):Option (Bool) :=
  if N=true then (some false) else ((loop (λs=>fI a1 J s.1 s.2.1 s.2.2.1 s.2.2.2.1 s.2.2.2.2.1 s.2.2.2.2.2.1 s.2.2.2.2.2.2.1 s.2.2.2.2.2.2.2.1 s.2.2.2.2.2.2.2.2.1 s.2.2.2.2.2.2.2.2.2.1 s.2.2.2.2.2.2.2.2.2.2.1 s.2.2.2.2.2.2.2.2.2.2.2.1 s.2.2.2.2.2.2.2.2.2.2.2.2.1 s.2.2.2.2.2.2.2.2.2.2.2.2.2.1 s.2.2.2.2.2.2.2.2.2.2.2.2.2.2) (z.2.2.f0,z.2.2.f1,z.2.2.f2,z.2.2.f3,z.2.2.f4,C.2.2.f0,C.2.2.f1,C.2.2.f2,C.2.2.f3,C.2.2.f4,G.f1,G.f2,I.f1,I.f2,0)).bind λt=>match t with | (.inl t)=>oY | (.inr t)=>some t)
def mA (a0:(List S61)) (a1:(List S52)):Option (Bool) :=
  (wG).bind λN=>(if (!N)=true then (some false) else ((aAn a0 8).bind λG=>((vQ 1048576).bind λS=>((S.1).bind λU=>((vQ 1048576).bind λX=>((X.1).bind λY=>((nI U 8).bind λz=>((z.1).bind λI=>((nI Y 8).bind λC=>((C.1).bind λJ=>(if (z.2.1 != 0)=true then (jN a1 G z I C J true) else (jN a1 G z I C J (C.2.1 != 0)))))))))))))
end
theorem aCf {r:World} {L:List HP} {w:World} {Z:Nat->Prop} {wz:World} (a0:(List S61)) (a1:(List S52)) (A0:Option Addr) (n0:Nat) (c0:Nat) (A1:Option Addr) (n1:Nat) (c1:Nat) {y:(Bool)} (G:mA a0 a1=some y) (ha0:Imm Z wz k61 A0 n0 c0 a0) (ha1:Imm Z wz (kz52 Z wz) A1 n1 c1 a1) (hG0:Imm Z wz (kI .u32) (some ⟨0,0,none⟩) 16 16 bX) (hG2:Gb Z wz 2 .u64 bK) (X:SH r (zone Z wz::L) w) :
  Ret Tryz.prog 4 #[.slice A0 n0 c0,.slice A1 n1 c1] w λv w'=>∃ (Z':Nat->Prop) (wz':World),v=.bool y/\Sub Z wz Z' wz'/\SH r (zone Z' wz'::L) w':=by
 refine enter Tryz.func4 rfl Tryz.ntmps4 [(0,_),(1,_)] rfl (by simp) ?_;intro U J Qf hQ hQn;unfold mA at G;refine nz 1 J rfl λU J=>wp_seq_k λM6 w4=>ws λM7 w5=>?_;obtain⟨M8,w6,G⟩:=bnd G;refine x_c en8 J rfl (aIr w6 X hG0 hG2 :) λv U w hR J=>?_;obtain⟨t3,t4,rfl,e2,X⟩:=hR;have t5:=Imm.sub ha0 e2;have w7:=Imm.kind (d':=(kz52 t3 t4)) (Imm.sub ha1 e2) rfl (wM e2);refine nk 1 J rfl λU J=>w5 _ _ (aX J G rfl (λw8 G=>?_) λw8 G=>?_)
 ·refine nz 1 J rfl λU J=>?_;cases G;refine wp_ret (hQ _ _ ?_);exact lv Tryz.results4 J rfl ⟨t3,t4,rfl,e2,X⟩
 refine wp_skip (w4 _ _ ?_);refine ws λM9 w9=>xk 1 J rfl λU J=>?_;obtain⟨i9,x0,G⟩:=bnd G;refine x_c en9 J rfl (aMr x0 X (t5.rdl 0 rfl) :) λv U w hR J=>?_;obtain⟨d2,d3,d4,rfl,X⟩:=hR;replace X:=X.pk 1 |>.pk 1;obtain⟨x1,x2,X,x3,e7⟩:=SH.freeze (n:=d3) (c:=d4) (A:=d2) X;have x4:=Imm.sub t5 e7;have x5:=Imm.kind (d':=(kz52 x1 x2)) (Imm.sub w7 e7) rfl (wM e7);refine x_m J rfl λU J=>wn (w9 _ _ ?_);refine ws λN0 x6=>?_;obtain⟨N1,x7,G⟩:=bnd G;refine x_c aZm J rfl (aBv x7 X :) λv U w hR J=>?_;obtain⟨N2,rfl,X⟩:=hR;refine xk 4 J rfl λU J=>?_;obtain⟨x8,x9,G⟩:=bnd G;rw [x9] at X;have hU:=SH.unoptS X;clear X;obtain⟨a7,hP0,hS0⟩:=hU;subst hP0;replace X:=hS0;clear hS0;obtain⟨N3,N4,N5,X⟩:=aG X;refine x_m J rfl λU J=>wn (x6 _ _ ?_);refine ws λN6 y0=>?_;obtain⟨N7,y1,G⟩:=bnd G;refine x_c aZm J rfl (aBv y1 X :) λv U w hR J=>?_;obtain⟨N8,rfl,X⟩:=hR;refine xk 4 J rfl λU J=>?_;obtain⟨y2,y3,G⟩:=bnd G;rw [y3] at X;have hU:=SH.unoptS X;clear X;obtain⟨a8,hP0,hS0⟩:=hU;subst hP0;replace X:=hS0;clear hS0;obtain⟨N9,O0,O3,X⟩:=aG X;refine x_m J rfl λU J=>wn (y0 _ _ ?_);refine ws λO4 y4=>xk 1 J rfl λU J=>?_;replace X:=(aF (x:=x8) (X.pk 3 |>.pk 3)).pk 3 |>.pk 1;obtain⟨j0,y5,G⟩:=bnd G;refine x_c aYi J rfl (yS y5 X (Imm.sub hG0 (Sub.trans e2 e7)) (Gb.sub hG2 (Sub.trans e2 e7)) :) λv U w hR J=>?_;obtain⟨y6,y7,O5,rfl,f5,X⟩:=hR;have y8:=Imm.sub x4 f5;have y9:=Imm.kind (d':=(kz52 y6 y7)) (Imm.sub x5 f5) rfl (wM f5);have z0:=Imm.sub x3 f5;obtain⟨o5,o6,o7,X⟩:=aG (X.pk 1);refine xk 4 J rfl λU J=>?_;replace X:=X.pk 2;obtain⟨o8,z1,G⟩:=bnd G;rw [z1] at X;have hU:=SH.unoptS X;clear X;obtain⟨a9,hP0,hS0⟩:=hU;subst hP0;replace X:=hS0;clear hS0;obtain⟨o9,p0,p4,X⟩:=aY X;refine x_m J rfl λU J=>wn (y4 _ _ ?_);refine ws λO6 z2=>xk 1 J rfl λU J=>?_;replace X:=(aF (x:=y2) (X.pk 6 |>.pk 6)).pk 5 |>.pk 1;obtain⟨g3,z3,G⟩:=bnd G;refine x_c aYi J rfl (yS z3 X (Imm.sub hG0 (Sub.trans (Sub.trans e2 e7) f5)) (Gb.sub hG2 (Sub.trans (Sub.trans e2 e7) f5)) :) λv U w hR J=>?_;obtain⟨k6,k7,O7,rfl,j1,X⟩:=hR;have O8:=Imm.sub y8 j1;have z4:=Imm.kind (d':=(kz52 k6 k7)) (Imm.sub y9 j1) rfl (wM j1);have z5:=Imm.sub z0 j1;obtain⟨p5,p6,p7,X⟩:=aG (X.pk 1);refine xk 4 J rfl λU J=>?_;replace X:=X.pk 2;obtain⟨p8,z6,G⟩:=bnd G;rw [z6] at X;have hU:=SH.unoptS X;clear X;obtain⟨b3,hP0,hS0⟩:=hU;subst hP0;replace X:=hS0;clear hS0;obtain⟨p9,q0,q1,X⟩:=aY X;refine x_m J rfl λU J=>wn (z2 _ _ ?_);refine wp_seq_k λO9 z7=>wp_seq_k λz8 z9=>?_;have hj1:∀q2,jN a1 i9 j0 o8 g3 p8 q2=some y->∀U w,FR 171 [] U [(1,.slice A1 n1 c1),(5,.slice d2 d3 d4),(6,(pP a7)),(8,(pP a8)),(10,(pP a9)),(12,(pP b3)),(52,.bool q2)]->SH r (blk a7 77 [.slice o5 o6 o7,.int .i64 j0.2.2.f1,.int .i64 j0.2.2.f2,.bool j0.2.2.f3,.int .i64 j0.2.2.f4]::blk a8 77 [.slice p5 p6 p7,.int .i64 g3.2.2.f1,.int .i64 g3.2.2.f2,.bool g3.2.2.f3,.int .i64 g3.2.2.f4]::blk a9 79 [.pointer (some ⟨a7,0,none⟩),.int .i64 o8.f1,.slice o9 p0 p4]::blk b3 79 [.pointer (some ⟨a8,0,none⟩),.int .i64 p8.f1,.slice p9 q0 q1]::own2 kp98 (kI .u8) 5 (λx:S98=>x.f1) 98 o5 o6 o7 j0.2.2.f0::own2 kp98 (kI .u8) 5 (λx:S98=>x.f1) 98 p5 p6 p7 g3.2.2.f0::own k46 46 o9 p0 p4 o8.f2::own k46 46 p9 q0 q1 p8.f2::zone k6 k7::L) w->z8 U w:=by
  intro q2 G U w J X;unfold jN at G;refine z9 _ _ (aX J G rfl (λA4 G=>?_) λA4 G=>?_)
  ·refine nz 1 J rfl λU J=>?_;replace X:=X.drop 0 |>.drop 0 |>.drop 0 |>.drop 0 |>.drop 0 |>.drop 0 |>.drop 0 |>.drop 0;cases G;refine wp_ret (hQ _ _ ?_);exact lv Tryz.results4 J rfl ⟨k6,k7,rfl,(Sub.trans (Sub.trans (Sub.trans e2 e7) f5) j1),X⟩
  refine wp_skip (z7 _ _ ?_);refine wp_seq_k λP0 A5=>nz 1 J rfl λU J=>aA λt6 A6=>?_;have hb1:qX=some y->∀k8 k9 (t7:Sub Z wz k8 k9) U w,FR 171 [] U []->SH r (zone k8 k9::L) w->t6 U w:=by intro G k8 k9 t7 U w J X;unfold qX at G;refine A6 _ _ (A5 _ _ ?_);refine nz 1 J rfl λU J=>?_;cases G;refine wp_ret (hQ _ _ ?_);exact lv Tryz.results4 J rfl ⟨k8,k9,rfl,t7,X⟩
  obtain⟨A7,A8,G⟩:=bnd G;have t8:=G;have A9:(.inl ())=A7->∀l0 l1 (t9:Sub Z wz l0 l1) U w,FR 171 [] U []->SH r (zone l0 l1::L) w->t6 U w:=by intro ht l0 l1 t9 U w J X;subst ht;replace G:oY=some y:=G;unfold oY at G;exact hb1 G l0 l1 t9 U w (J.sub _ rfl) X
  refine aT A8 (λs U w=>∃e8 e9 g4 g5 g6 g7 g8 g9 j7 j8 j9 h1 h2 h3,Sub Z wz e8 e9/\Imm e8 e9 (kz52 e8 e9) A1 n1 c1 a1/\Imm e8 e9 k61 d2 d3 d4 i9/\FR 171 [] U [(1,.slice A1 n1 c1),(5,.slice d2 d3 d4),(6,(pP a7)),(8,(pP a8)),(10,(pP a9)),(12,(pP b3)),(14,.int .i64 s.2.2.2.2.2.2.2.2.2.2.2.2.2.2)]/\SH r (blk a7 77 [.slice g4 g5 g6,.int .i64 s.2.1,.int .i64 s.2.2.1,.bool s.2.2.2.1,.int .i64 s.2.2.2.2.1]::blk a8 77 [.slice g7 g8 g9,.int .i64 s.2.2.2.2.2.2.1,.int .i64 s.2.2.2.2.2.2.2.1,.bool s.2.2.2.2.2.2.2.2.1,.int .i64 s.2.2.2.2.2.2.2.2.2.1]::blk a9 79 [.pointer (some ⟨a7,0,none⟩),.int .i64 s.2.2.2.2.2.2.2.2.2.2.1,.slice j7 j8 j9]::blk b3 79 [.pointer (some ⟨a8,0,none⟩),.int .i64 s.2.2.2.2.2.2.2.2.2.2.2.2.1,.slice h1 h2 h3]::own2 kp98 (kI .u8) 5 (λx:S98=>x.f1) 98 g4 g5 g6 s.1::own2 kp98 (kI .u8) 5 (λx:S98=>x.f1) 98 g7 g8 g9 s.2.2.2.2.2.1::own k46 46 j7 j8 j9 s.2.2.2.2.2.2.2.2.2.2.2.1::own k46 46 h1 h2 h3 s.2.2.2.2.2.2.2.2.2.2.2.2.2.1::zone e8 e9::L) w) ⟨k6,k7,o5,o6,o7,p5,p6,p7,o9,p0,p4,p9,q0,q1,(Sub.trans (Sub.trans (Sub.trans e2 e7) f5) j1),z4,z5,J.sub _ rfl,X⟩ ?_;intro P1 B0 f6 G B1 q3 U w hLab;obtain⟨h4,h5,h6,h7,h8,h9,i0,i1,i2,i3,l2,l3,i4,i5,b7⟩:=B0;replace G:fI a1 i9 h4 h5 h6 h7 h8 h9 i0 i1 i2 i3 l2 l3 i4 i5 b7=some f6:=G;unfold fI at G
  try dsimp only at hLab
  obtain⟨e8,e9,g4,g5,g6,g7,g8,g9,j7,j8,j9,h1,h2,h3,d6,k0,f7,J,X⟩:=hLab;refine wp_seq_k λP2 B2=>wp_seq_k λB3 B4=>?_;have hj2:∀q4,gU a1 i9 h4 h5 h6 h7 h8 h9 i0 i1 i2 i3 l2 l3 i4 i5 b7 q4=some f6->∀U w,FR 171 [] U [(1,.slice A1 n1 c1),(5,.slice d2 d3 d4),(6,(pP a7)),(8,(pP a8)),(10,(pP a9)),(12,(pP b3)),(14,.int .i64 b7),(60,.bool q4)]->SH r (blk a7 77 [.slice g4 g5 g6,.int .i64 h5,.int .i64 h6,.bool h7,.int .i64 h8]::blk a8 77 [.slice g7 g8 g9,.int .i64 i0,.int .i64 i1,.bool i2,.int .i64 i3]::blk a9 79 [.pointer (some ⟨a7,0,none⟩),.int .i64 l2,.slice j7 j8 j9]::blk b3 79 [.pointer (some ⟨a8,0,none⟩),.int .i64 i4,.slice h1 h2 h3]::own2 kp98 (kI .u8) 5 (λx:S98=>x.f1) 98 g4 g5 g6 h4::own2 kp98 (kI .u8) 5 (λx:S98=>x.f1) 98 g7 g8 g9 h9::own k46 46 j7 j8 j9 l3::own k46 46 h1 h2 h3 i5::zone e8 e9::L) w->B3 U w:=by
   intro q4 G U w J X;unfold gU at G;refine B4 _ _ (aX J G rfl (λB5 G=>?_) λB5 G=>?_)
   ·refine wp_skip (B2 _ _ ?_);refine wp_seq_k λP3 B6=>aA λP4 B7=>ws λP5 B8=>xk 2 J rfl λU J=>?_;obtain⟨k1,u0,G⟩:=bnd G;refine fK bCr aZt (X.imm 8 k0 rfl) u0 J (λU J=>?_) rfl;obtain⟨cs,hV,B9⟩:=el (X.imm 8 k0 rfl) u0;obtain⟨u1,u2,u3,rfl,u4⟩:=hV;refine iL (cs:=[.int .u8 k1.f0,.int .u8 k1.f1,.slice u1 u2 u3]) bEe aZt (λj u h=>by rw [iD]; exact B9 _ _ h) J (λU J=>?_) rfl;refine eY (cs:=[.int .u8 0,.int .u8 0,.slice none 0 0]) bD7 J X (λu5 U w X J=>?_) rfl;refine eH 0 aZt J X rfl (λU w X J=>?_) rfl;refine wn (B8 _ _ ?_);refine ws λP6 C0=>xk 1 J rfl λU J=>?_;replace X:=X.pk 7 |>.pk 4;replace X:=aV (x:=(⟨(),l2,l3⟩:S79)) X;obtain⟨j2,C1,G⟩:=bnd G;refine x_c aV3 J rfl (nQ C1 X :) λv U w hR J=>?_;obtain⟨rfl,X⟩:=hR;obtain⟨u6,u7,u9,X⟩:=aY X;refine x_m J rfl λU J=>wn (C0 _ _ ?_);refine ws λP7 C2=>aO aOi J (λU J=>?_) rfl;refine aM uu5 (X.cell 2 rfl 1 _ rfl) J (λU J=>?_) rfl;refine eP G J (aIh rfl (J.ev rfl) (J.ev rfl) (by decide)) rfl λP8 _ U J G=>eP G J (aQ uu5 bS rfl (J.ev rfl)) rfl λC3 _ U J G=>x_m J rfl λU J=>wn (C2 _ _ ?_);refine wp_seq_k λC4 C5=>?_;have hj3:∀q5,gW i9 h4 h5 h6 h7 h8 h9 i0 i1 i2 i3 i4 i5 b7 k1 j2 q5=some f6->∀U w,FR 171 [] U [(1,.slice A1 n1 c1),(5,.slice d2 d3 d4),(6,(pP a7)),(8,(pP a8)),(10,(pP a9)),(12,(pP b3)),(14,.int .i64 b7),(15,(pP u5)),(16,.int .u64 j2.1),(17,.int .u64 q5)]->SH r (blk a7 77 [.slice g4 g5 g6,.int .i64 h5,.int .i64 h6,.bool h7,.int .i64 h8]::blk a8 77 [.slice g7 g8 g9,.int .i64 i0,.int .i64 i1,.bool i2,.int .i64 i3]::blk a9 79 [.pointer (some ⟨a7,0,none⟩),.int .i64 j2.2.f1,.slice u6 u7 u9]::blk b3 79 [.pointer (some ⟨a8,0,none⟩),.int .i64 i4,.slice h1 h2 h3]::blk u5 52 [.int .u8 k1.f0,.int .u8 k1.f1,.slice u1 u2 u3]::own2 kp98 (kI .u8) 5 (λx:S98=>x.f1) 98 g4 g5 g6 h4::own2 kp98 (kI .u8) 5 (λx:S98=>x.f1) 98 g7 g8 g9 h9::own k46 46 u6 u7 u9 j2.2.f2::own k46 46 h1 h2 h3 i5::zone e8 e9::L) w->C4 U w:=by
     intro q5 G U w J X;unfold gW at G;refine C5 _ _ (wp_seq_k λC6 C7=>?_);have hj4:∀z C I N S Y a3 a4 a5 a6 d7 d8 q6 d9 e1 q7,gY b7 z C I N S Y a3 a4 a5 a6 d7 d8 q6 d9 e1 q7=some f6->∀b8 b9 q8 q9 r0 r1 r2 r3 c4 c5 c6 c7 c8 c9 (l4:Sub Z wz b8 b9) (v0:Imm b8 b9 (kz52 b8 b9) A1 n1 c1 a1) (v1:Imm b8 b9 k61 d2 d3 d4 i9) U w,FR 171 [] U [(1,.slice A1 n1 c1),(5,.slice d2 d3 d4),(6,(pP a7)),(8,(pP a8)),(10,(pP a9)),(11,.int .i64 q6),(12,(pP b3)),(13,.int .i64 q7),(14,.int .i64 b7)]->SH r (blk a7 77 [.slice q8 q9 r0,.int .i64 C,.int .i64 I,.bool N,.int .i64 S]::blk a8 77 [.slice r1 r2 r3,.int .i64 a3,.int .i64 a4,.bool a5,.int .i64 a6]::blk a9 79 [.pointer (some ⟨a7,0,none⟩),.int .i64 d7,.slice c4 c5 c6]::blk b3 79 [.pointer (some ⟨a8,0,none⟩),.int .i64 d9,.slice c7 c8 c9]::own2 kp98 (kI .u8) 5 (λx:S98=>x.f1) 98 q8 q9 r0 z::own2 kp98 (kI .u8) 5 (λx:S98=>x.f1) 98 r1 r2 r3 Y::own k46 46 c4 c5 c6 d8::own k46 46 c7 c8 c9 e1::zone b8 b9::L) w->C6 U w:=by
      intro z C I N S Y a3 a4 a5 a6 d7 d8 q6 d9 e1 q7 G b8 b9 q8 q9 r0 r1 r2 r3 c4 c5 c6 c7 c8 c9 l4 v0 v1 U w J X;unfold gY at G;refine C7 _ _ (ws λP9 C8=>?_);refine xk 1 J rfl λU J=>?_;replace X:=X.pk 4 |>.pk 1;replace X:=SH.optS (aF (x:=(⟨z,C,I,N,S⟩:S77)) X);obtain⟨j3,C9,G⟩:=bnd G;refine x_c aX6 J rfl (tN C9 X :) λv U w hR J=>?_;obtain⟨d0,e3,e4,rfl,X⟩:=hR;obtain⟨r4,r5,r6,X⟩:=aG (SH.unoptP (X.pk 1));refine x_m J rfl λU J=>wn (C8 _ _ ?_);refine ws λQ0 D0=>xk 1 J rfl λU J=>?_;replace X:=X.pk 6 |>.pk 4;replace X:=SH.optS (aF (x:=(⟨Y,a3,a4,a5,a6⟩:S77)) X);obtain⟨j4,D1,G⟩:=bnd G;refine x_c aX6 J rfl (tN D1 X :) λv U w hR J=>?_;obtain⟨d1,e5,e6,rfl,X⟩:=hR;obtain⟨r7,r8,r9,X⟩:=aG (SH.unoptP (X.pk 1));refine x_m J rfl λU J=>wn (D0 _ _ ?_);refine wp_seq_k λQ1 D2=>wp_seq_k λD3 D4=>?_;have hj5:∀s2,jR b7 z C I N S Y a3 a4 a5 a6 d7 d8 d9 e1 j3 j4 s2=some f6->∀U w,FR 171 [] U [(1,.slice A1 n1 c1),(5,.slice d2 d3 d4),(6,(pP a7)),(8,(pP a8)),(10,(pP a9)),(12,(pP b3)),(14,.int .i64 b7),(18,.slice d0 e3 e4),(19,.slice d1 e5 e6),(130,.bool s2)]->SH r (blk a7 77 [.slice r4 r5 r6,.int .i64 ((⟨z,C,I,N,S⟩:S77).f1),.int .i64 ((⟨z,C,I,N,S⟩:S77).f2),.bool ((⟨z,C,I,N,S⟩:S77).f3),.int .i64 ((⟨z,C,I,N,S⟩:S77).f4)]::blk a8 77 [.slice r7 r8 r9,.int .i64 ((⟨Y,a3,a4,a5,a6⟩:S77).f1),.int .i64 ((⟨Y,a3,a4,a5,a6⟩:S77).f2),.bool ((⟨Y,a3,a4,a5,a6⟩:S77).f3),.int .i64 ((⟨Y,a3,a4,a5,a6⟩:S77).f4)]::blk a9 79 [.pointer (some ⟨a7,0,none⟩),.int .i64 d7,.slice c4 c5 c6]::blk b3 79 [.pointer (some ⟨a8,0,none⟩),.int .i64 d9,.slice c7 c8 c9]::own2 kp98 (kI .u8) 5 (λx:S98=>x.f1) 98 r4 r5 r6 ((⟨z,C,I,N,S⟩:S77).f0)::own2 kp98 (kI .u8) 5 (λx:S98=>x.f1) 98 r7 r8 r9 ((⟨Y,a3,a4,a5,a6⟩:S77).f0)::own k46 46 c4 c5 c6 d8::own k46 46 c7 c8 c9 e1::own kS 9 d0 e3 e4 j3::own kS 9 d1 e5 e6 j4::zone b8 b9::L) w->D3 U w:=by
       intro s2 G U w J X;unfold jR at G;refine D4 _ _ (aX J G rfl (λD5 G=>?_) λD5 G=>?_)
       ·refine nz 1 J rfl λU J=>?_;replace X:=X.drop 0 |>.drop 0 |>.drop 0 |>.drop 0 |>.drop 0 |>.drop 0 |>.drop 0 |>.drop 0 |>.drop 0 |>.drop 0;cases G;refine wp_ret ?_;have ht:=q3 _ rfl;subst ht;replace G:=t8;replace G:some false=some y:=G;cases G;refine hQ _ _ (lv Tryz.results4 J rfl ?_);exact⟨b8,b9,rfl,l4,X⟩
       refine wp_skip (D2 _ _ ?_);refine nz 1 J rfl λU J=>aA λv2 D6=>?_;have hb2:mK b7 z C I N S Y a3 a4 a5 a6 d7 d8 d9 e1=some f6->∀l5 l6 l7 l8 l9 m0 U w,FR 171 [] U [(1,.slice A1 n1 c1),(5,.slice d2 d3 d4),(6,(pP a7)),(8,(pP a8)),(10,(pP a9)),(12,(pP b3)),(14,.int .i64 b7)]->SH r (blk a7 77 [.slice l5 l6 l7,.int .i64 ((⟨z,C,I,N,S⟩:S77).f1),.int .i64 ((⟨z,C,I,N,S⟩:S77).f2),.bool ((⟨z,C,I,N,S⟩:S77).f3),.int .i64 ((⟨z,C,I,N,S⟩:S77).f4)]::blk a8 77 [.slice l8 l9 m0,.int .i64 ((⟨Y,a3,a4,a5,a6⟩:S77).f1),.int .i64 ((⟨Y,a3,a4,a5,a6⟩:S77).f2),.bool ((⟨Y,a3,a4,a5,a6⟩:S77).f3),.int .i64 ((⟨Y,a3,a4,a5,a6⟩:S77).f4)]::blk a9 79 [.pointer (some ⟨a7,0,none⟩),.int .i64 d7,.slice c4 c5 c6]::blk b3 79 [.pointer (some ⟨a8,0,none⟩),.int .i64 d9,.slice c7 c8 c9]::own2 kp98 (kI .u8) 5 (λx:S98=>x.f1) 98 l5 l6 l7 ((⟨z,C,I,N,S⟩:S77).f0)::own2 kp98 (kI .u8) 5 (λx:S98=>x.f1) 98 l8 l9 m0 ((⟨Y,a3,a4,a5,a6⟩:S77).f0)::own k46 46 c4 c5 c6 d8::own k46 46 c7 c8 c9 e1::zone b8 b9::L) w->v2 U w:=by intro G l5 l6 l7 l8 l9 m0 U w J X;unfold mK at G;refine D6 _ _ (B7 _ _ ?_);refine B6 _ _ (aD ?_);refine x_m J rfl λU J=>x_l G J rfl λQ2 _ U J G=>x_m J rfl λU J=>wpList_nil ?_;cases G;exact⟨_,B1 _ rfl,b8,b9,l5,l6,l7,l8,l9,m0,c4,c5,c6,c7,c8,c9,l4,v0,v1,J.sub _ rfl,X⟩
       obtain⟨D7,D8,G⟩:=bnd G;have D9:=G;have E0:(.inl ())=D7->∀m1 m2 m3 m4 m5 m6 U w,FR 171 [] U [(1,.slice A1 n1 c1),(5,.slice d2 d3 d4),(6,(pP a7)),(8,(pP a8)),(10,(pP a9)),(12,(pP b3)),(14,.int .i64 b7)]->SH r (blk a7 77 [.slice m1 m2 m3,.int .i64 ((⟨z,C,I,N,S⟩:S77).f1),.int .i64 ((⟨z,C,I,N,S⟩:S77).f2),.bool ((⟨z,C,I,N,S⟩:S77).f3),.int .i64 ((⟨z,C,I,N,S⟩:S77).f4)]::blk a8 77 [.slice m4 m5 m6,.int .i64 ((⟨Y,a3,a4,a5,a6⟩:S77).f1),.int .i64 ((⟨Y,a3,a4,a5,a6⟩:S77).f2),.bool ((⟨Y,a3,a4,a5,a6⟩:S77).f3),.int .i64 ((⟨Y,a3,a4,a5,a6⟩:S77).f4)]::blk a9 79 [.pointer (some ⟨a7,0,none⟩),.int .i64 d7,.slice c4 c5 c6]::blk b3 79 [.pointer (some ⟨a8,0,none⟩),.int .i64 d9,.slice c7 c8 c9]::own2 kp98 (kI .u8) 5 (λx:S98=>x.f1) 98 m1 m2 m3 ((⟨z,C,I,N,S⟩:S77).f0)::own2 kp98 (kI .u8) 5 (λx:S98=>x.f1) 98 m4 m5 m6 ((⟨Y,a3,a4,a5,a6⟩:S77).f0)::own k46 46 c4 c5 c6 d8::own k46 46 c7 c8 c9 e1::zone b8 b9::L) w->v2 U w:=by intro ht m1 m2 m3 m4 m5 m6 U w J X;subst ht;replace G:kY b7 z C I N S Y a3 a4 a5 a6 d7 d8 d9 e1=some f6:=G;unfold kY at G;exact hb2 G m1 m2 m3 m4 m5 m6 U w (J.sub _ rfl) X
       refine aT D8 (λs U w=>∃m7 m8 m9 n4 n5 n6,FR 171 [] U [(1,.slice A1 n1 c1),(5,.slice d2 d3 d4),(6,(pP a7)),(8,(pP a8)),(10,(pP a9)),(12,(pP b3)),(14,.int .i64 b7),(18,.slice d0 e3 e4),(19,.slice d1 e5 e6),(20,.int .i64 s)]/\SH r (blk a7 77 [.slice m7 m8 m9,.int .i64 ((⟨z,C,I,N,S⟩:S77).f1),.int .i64 ((⟨z,C,I,N,S⟩:S77).f2),.bool ((⟨z,C,I,N,S⟩:S77).f3),.int .i64 ((⟨z,C,I,N,S⟩:S77).f4)]::blk a8 77 [.slice n4 n5 n6,.int .i64 ((⟨Y,a3,a4,a5,a6⟩:S77).f1),.int .i64 ((⟨Y,a3,a4,a5,a6⟩:S77).f2),.bool ((⟨Y,a3,a4,a5,a6⟩:S77).f3),.int .i64 ((⟨Y,a3,a4,a5,a6⟩:S77).f4)]::blk a9 79 [.pointer (some ⟨a7,0,none⟩),.int .i64 d7,.slice c4 c5 c6]::blk b3 79 [.pointer (some ⟨a8,0,none⟩),.int .i64 d9,.slice c7 c8 c9]::own2 kp98 (kI .u8) 5 (λx:S98=>x.f1) 98 m7 m8 m9 ((⟨z,C,I,N,S⟩:S77).f0)::own2 kp98 (kI .u8) 5 (λx:S98=>x.f1) 98 n4 n5 n6 ((⟨Y,a3,a4,a5,a6⟩:S77).f0)::own k46 46 c4 c5 c6 d8::own k46 46 c7 c8 c9 e1::own kS 9 d0 e3 e4 j3::own kS 9 d1 e5 e6 j4::zone b8 b9::L) w) ⟨r4,r5,r6,r7,r8,r9,J.sub _ rfl,X⟩ ?_;intro Q3 E1 v3 G E2 v4 U w hLab;obtain⟨b6,rfl⟩:∃ q,q=E1:=⟨_,rfl⟩;replace G:dX z C I N S Y a3 a4 a5 a6 j3 j4 b6=some v3:=G;unfold dX at G
       try dsimp only at hLab
       obtain⟨m7,m8,m9,n4,n5,n6,J,X⟩:=hLab;refine wp_seq_k λQ4 E3=>ws λQ5 E4=>xk 2 J rfl λU J=>aW qF (X.rd 8 rfl).2.1 J (λU J=>?_) rfl;refine nk 1 J rfl λU J=>E4 _ _ (aX J G rfl (λE5 G=>?_) λE5 G=>?_)
       ·refine wp_skip (E3 _ _ ?_);refine wp_seq_k λQ6 E6=>aA λQ7 E7=>ws λQ8 E8=>xk 3 J rfl λU J=>?_;obtain⟨b4,k2,G⟩:=bnd G;refine fK qF sz9 (X.rd 8 rfl) k2 J (λU J=>?_) rfl;obtain⟨cs,hV,E9⟩:=el (X.rd 8 rfl) k2;obtain rfl:=hV;refine aM uu9 (E9 0 _ rfl) J (λU J=>?_) rfl;replace X:=X.pk 4 |>.pk 1;replace X:=SH.optS (aF (x:=(⟨z,C,I,N,S⟩:S77)) X);obtain⟨j5,F1,G⟩:=bnd G;refine x_c aVr J rfl (pN F1 X :) λv U w hR J=>?_;obtain⟨n7,n8,n9,rfl,X⟩:=hR;obtain⟨s3,s4,s5,X⟩:=aG (SH.unoptP (X.pk 1));refine nk 5 J rfl λU J=>E8 _ _ (ws λQ9 F2=>?_);refine xk 3 J rfl λU J=>?_;obtain⟨b5,k3,G⟩:=bnd G;refine fK qF sz9 (X.rd 10 rfl) k3 J (λU J=>?_) rfl;obtain⟨cs,hV,F3⟩:=el (X.rd 10 rfl) k3;obtain rfl:=hV;refine aM uu9 (F3 0 _ rfl) J (λU J=>?_) rfl;replace X:=X.pk 6 |>.pk 4;replace X:=SH.optS (aF (x:=(⟨Y,a3,a4,a5,a6⟩:S77)) X);obtain⟨j6,F5,G⟩:=bnd G;refine x_c aVr J rfl (pN F5 X :) λv U w hR J=>?_;obtain⟨o0,o1,o2,rfl,X⟩:=hR;obtain⟨s6,s7,s8,X⟩:=aG (SH.unoptP (X.pk 1));refine nk 5 J rfl λU J=>F2 _ _ (wp_seq_k λF6 F7=>?_);have hj6:∀s9,jO b6 s9=some v3->∀U w,FR 171 [] U [(1,.slice A1 n1 c1),(5,.slice d2 d3 d4),(6,(pP a7)),(8,(pP a8)),(10,(pP a9)),(12,(pP b3)),(14,.int .i64 b7),(18,.slice d0 e3 e4),(19,.slice d1 e5 e6),(20,.int .i64 b6),(170,.bool s9)]->SH r (blk a7 77 [.slice s3 s4 s5,.int .i64 ((⟨z,C,I,N,S⟩:S77).f1),.int .i64 ((⟨z,C,I,N,S⟩:S77).f2),.bool ((⟨z,C,I,N,S⟩:S77).f3),.int .i64 ((⟨z,C,I,N,S⟩:S77).f4)]::blk a8 77 [.slice s6 s7 s8,.int .i64 ((⟨Y,a3,a4,a5,a6⟩:S77).f1),.int .i64 ((⟨Y,a3,a4,a5,a6⟩:S77).f2),.bool ((⟨Y,a3,a4,a5,a6⟩:S77).f3),.int .i64 ((⟨Y,a3,a4,a5,a6⟩:S77).f4)]::blk a9 79 [.pointer (some ⟨a7,0,none⟩),.int .i64 d7,.slice c4 c5 c6]::blk b3 79 [.pointer (some ⟨a8,0,none⟩),.int .i64 d9,.slice c7 c8 c9]::own2 kp98 (kI .u8) 5 (λx:S98=>x.f1) 98 s3 s4 s5 ((⟨z,C,I,N,S⟩:S77).f0)::own2 kp98 (kI .u8) 5 (λx:S98=>x.f1) 98 s6 s7 s8 ((⟨Y,a3,a4,a5,a6⟩:S77).f0)::own k46 46 c4 c5 c6 d8::own k46 46 c7 c8 c9 e1::own kS 9 d0 e3 e4 j3::own kS 9 d1 e5 e6 j4::zone b8 b9::L) w->F6 U w:=by
         intro s9 G U w J X;unfold jO at G;refine F7 _ _ (aX J G rfl (λF8 G=>?_) λF8 G=>?_)
         ·refine nz 1 J rfl λU J=>?_;replace X:=X.drop 0 |>.drop 0 |>.drop 0 |>.drop 0 |>.drop 0 |>.drop 0 |>.drop 0 |>.drop 0 |>.drop 0 |>.drop 0;cases G;refine wp_ret ?_;have ht:=v4 _ rfl;subst ht;replace G:=D9;replace G:some (.inr (.inr false))=some f6:=G;cases G;have ht:=q3 _ rfl;subst ht;replace G:=t8;replace G:some false=some y:=G;cases G;refine hQ _ _ (lv Tryz.results4 J rfl ?_);exact⟨b8,b9,rfl,l4,X⟩
         refine wp_skip (E7 _ _ ?_);refine E6 _ _ (aD ?_);refine x_m J rfl λU J=>x_l G J rfl λR0 _ U J G=>x_m J rfl λU J=>wpList_nil ?_;cases G;exact⟨_,E2 _ rfl,s3,s4,s5,s6,s7,s8,J.sub _ rfl,X⟩
        refine bZ [0,0,3,7,0,0,48,112,255,511,1023,2047,1023,5119,16383,32767] [] rfl J X (by kernel_rfl) (by kernel_rfl) (by kernel_rfl) (by kernel_rfl) λw X=>?_;obtain⟨cs,hV,v5⟩:=el (X.rd 10 rfl) k2;obtain rfl:=hV;obtain⟨cs,hV,v6⟩:=el (X.rd 11 rfl) k3;obtain rfl:=hV;refine bcG G (λd5 G=>?_) λd5 G=>?_
        ·refine⟨[(0,.slice d0 e3 e4),(1,.int .i64 b6),(2,.pointer (some (ea d0 (b6.toNat * 1)))),(3,str b4),(4,.slice d1 e5 e6),(5,.int .i64 b6),(6,.pointer (some (ea d1 (b6.toNat * 1)))),(7,str b5),(8,.bool (!(b4==b5))),(9,.bool (!(b4==b5))),(10,undef),(11,undef),(12,undef),(13,undef),(14,undef),(15,.bool true)],?_⟩;refine dU [0,1,2,3,4,5,6,7,8,9,10,11,12,13,14,15] (by kernel_rfl) ⟨pm rfl,pm rfl,pt [(155,.slice d0 e3 e4),(156,.int .i64 b6)] rfl (λU J=>eW qF sz9 (X.rd 10 rfl) k2 J rfl rfl rfl),pt [(157,.pointer (some (ea d0 (b6.toNat * 1))))] rfl (λU J=>aP uu9 (v5 0 _ rfl) J rfl rfl rfl),pm rfl,pm rfl,pt [(159,.slice d1 e5 e6),(160,.int .i64 b6)] rfl (λU J=>eW qF sz9 (X.rd 11 rfl) k3 J rfl rfl rfl),pt [(161,.pointer (some (ea d1 (b6.toNat * 1))))] rfl (λU J=>aP uu9 (v6 0 _ rfl) J rfl rfl rfl),pt [(158,str b4),(162,str b5)] rfl (λU J=>aJn rfl (J.ev rfl) (J.ev rfl)),pm rfl,bB rfl rfl rfl rfl [(21,.slice n7 n8 n9),(164,.bool (!(b4==b5)))] rfl d5 rfl,bB rfl rfl rfl rfl [(164,.bool (!(b4==b5))),(165,undef)] rfl d5 rfl,bB rfl rfl rfl rfl [(23,.slice o0 o1 o2),(164,.bool (!(b4==b5)))] rfl d5 rfl,bB rfl rfl rfl rfl [(164,.bool (!(b4==b5))),(167,undef)] rfl d5 rfl,bB rfl rfl rfl rfl [(164,.bool (!(b4==b5))),(166,undef),(168,undef)] rfl d5 rfl,pt [(164,.bool (!(b4==b5))),(169,undef)] rfl (λU J=>mL d5 J rfl rfl rfl),trivial⟩ ⟨by kernel_rfl,by kernel_rfl⟩ [(1,_),(5,_),(6,_),(8,_),(10,_),(12,_),(14,_),(18,_),(19,_),(20,_),(170,_)] rfl (λU J=>?_);replace X:=X.drop 2 |>.drop 4 |>.pk 10 |>.pk 10 |>.pk 10 |>.pk 10 |>.pk 10 |>.pk 6 |>.pk 8 |>.pk 10 |>.pk 10 |>.pk 9 |>.pk 10;exact hj6 true G U w (J.sub _ rfl) X
        refine⟨[(0,.slice d0 e3 e4),(1,.int .i64 b6),(2,.pointer (some (ea d0 (b6.toNat * 1)))),(3,str b4),(4,.slice d1 e5 e6),(5,.int .i64 b6),(6,.pointer (some (ea d1 (b6.toNat * 1)))),(7,str b5),(8,.bool (!(b4==b5))),(9,.bool (!(b4==b5))),(10,.slice n7 n8 n9),(11,str (bts j5.1)),(12,.slice o0 o1 o2),(13,str (bts j6.1)),(14,.bool (!((bts j5.1)==(bts j6.1)))),(15,.bool (!((bts j5.1)==(bts j6.1))))],?_⟩;refine dU [0,1,2,3,4,5,6,7,8,9,10,11,12,13,14,15] (by kernel_rfl) ⟨pm rfl,pm rfl,pt [(155,.slice d0 e3 e4),(156,.int .i64 b6)] rfl (λU J=>eW qF sz9 (X.rd 10 rfl) k2 J rfl rfl rfl),pt [(157,.pointer (some (ea d0 (b6.toNat * 1))))] rfl (λU J=>aP uu9 (v5 0 _ rfl) J rfl rfl rfl),pm rfl,pm rfl,pt [(159,.slice d1 e5 e6),(160,.int .i64 b6)] rfl (λU J=>eW qF sz9 (X.rd 11 rfl) k3 J rfl rfl rfl),pt [(161,.pointer (some (ea d1 (b6.toNat * 1))))] rfl (λU J=>aP uu9 (v6 0 _ rfl) J rfl rfl rfl),pt [(158,str b4),(162,str b5)] rfl (λU J=>aJn rfl (J.ev rfl) (J.ev rfl)),pm rfl,cB rfl rfl rfl rfl [(21,.slice n7 n8 n9),(164,.bool (!(b4==b5)))] rfl d5 (λU J=>fH J rfl rfl) rfl,cB rfl rfl rfl rfl [(164,.bool (!(b4==b5))),(165,.slice n7 n8 n9)] rfl d5 (λU J=>aXk cL uu5 uu9 (X.rd 5 rfl) J rfl rfl) rfl,cB rfl rfl rfl rfl [(23,.slice o0 o1 o2),(164,.bool (!(b4==b5)))] rfl d5 (λU J=>fH J rfl rfl) rfl,cB rfl rfl rfl rfl [(164,.bool (!(b4==b5))),(167,.slice o0 o1 o2)] rfl d5 (λU J=>aXk cL uu5 uu9 (X.rd 2 rfl) J rfl rfl) rfl,cB rfl rfl rfl rfl [(164,.bool (!(b4==b5))),(166,str (bts j5.1)),(168,str (bts j6.1))] rfl d5 (λU J=>aJn rfl (J.ev rfl) (J.ev rfl)) rfl,pt [(164,.bool (!(b4==b5))),(169,.bool (!((bts j5.1)==(bts j6.1))))] rfl (λU J=>nV d5 J rfl rfl rfl),trivial⟩ ⟨by kernel_rfl,by kernel_rfl⟩ [(1,_),(5,_),(6,_),(8,_),(10,_),(12,_),(14,_),(18,_),(19,_),(20,_),(165,_),(166,_),(167,_),(168,_),(169,_),(170,_)] rfl (λU J=>?_);replace X:=X.drop 2 |>.drop 4 |>.pk 10 |>.pk 10 |>.pk 10 |>.pk 10 |>.pk 10 |>.pk 6 |>.pk 8 |>.pk 10 |>.pk 10 |>.pk 9 |>.pk 10;exact hj6 (!((bts j5.1)==(bts j6.1))) G U w (J.sub _ rfl) X
       replace X:=X.drop 8 |>.drop 8;cases G;exact wp_exit (E0 (v4 _ rfl) m7 m8 m9 n4 n5 n6 U w (J.sub _ rfl) X)
      refine aD (xk 4 J rfl λU J=>?_);refine bcG G (λi6 G=>?_) λi6 G=>?_
      ·refine ng 6 i6 J rfl rfl λU J=>?_;replace X:=X.pk 10 |>.pk 3 |>.pk 6 |>.pk 10 |>.pk 10 |>.pk 6 |>.pk 8 |>.pk 10 |>.pk 10 |>.pk 9 |>.pk 10;exact hj5 true G U w (J.sub _ rfl) X
      refine xg 1 i6 J rfl rfl λU J=>aN i6 J ?_ rfl;refine aW qF (X.rd 5 rfl).2.1 J (λU J=>?_) rfl;refine xg 1 i6 J rfl rfl λU J=>aN i6 J ?_ rfl;refine aW qF (X.rd 2 rfl).2.1 J (λU J=>?_) rfl;refine ng 2 i6 J rfl rfl λU J=>?_;replace X:=X.pk 10 |>.pk 3 |>.pk 6 |>.pk 10 |>.pk 10 |>.pk 6 |>.pk 8 |>.pk 10 |>.pk 10 |>.pk 9 |>.pk 10;exact hj5 ((j3.length:Int) != (j4.length:Int)) G U w (J.sub _ rfl) X
     refine ws λR1 F9=>aO aYp J (λU J=>?_) rfl;refine aM uu5 (X.cell 4 rfl 0 _ rfl) J (λU J=>?_) rfl;refine eP G J (aIh rfl (J.ev rfl) (J.ev rfl) (by decide)) rfl λR2 _ U J G=>nk 1 J rfl λU J=>F9 _ _ (aX J G rfl (λG0 G=>?_) λG0 G=>?_)
     ·refine ws λR3 G1=>xk 5 J rfl λU J=>x_l G J rfl λG2 G3 U J G=>?_;obtain⟨R4,o3,G⟩:=bnd G;obtain⟨G4,G5,G6,G7,v7⟩:=aLf f7 o3;refine x_v (v:=.slice G4 G5 G6) J (aD7 G7 (aA3 jH jX rfl (J.ev rfl) (J.ev rfl) (J.ev rfl) (oH (X.imm 9 f7 rfl) o3).1 (oH (X.imm 9 f7 rfl) o3).2.1 (oH (X.imm 9 f7 rfl) o3).2.2.1)) rfl λU J=>?_;replace X:=(aV (x:=j2.2) (X.pk 7 |>.pk 3)).pk 5 |>.pk 2;replace X:=(aF (x:=(⟨h4,h5,h6,h7,h8⟩:S77)) X).pk 7 |>.pk 1 |>.pk 2;obtain⟨f8,G8,G⟩:=bnd G;refine x_c aWh J rfl (lM G8 X v7 (Imm.sub hG0 d6) (Gb.sub hG2 d6) :) λv U w hR J=>?_;obtain⟨G9,H0,rfl,f9,X⟩:=hR;have H1:=Imm.kind (d':=(kz52 G9 H0)) (Imm.sub k0 f9) rfl (wM f9);have k4:=Imm.sub f7 f9;have H2:=Imm.sub v7 f9;have H3:=Imm.sub u4 f9;obtain⟨H4,H5,H6,X⟩:=aY X;obtain⟨H7,H8,H9,X⟩:=aG (X.pk 2);refine x_m J rfl λU J=>wn (G1 _ _ ?_);refine aD (xk 5 J rfl λU J=>?_);refine x_v (v:=.int .u64 G2) J (cO G3 (kT rfl (J.ev rfl) (J.ev rfl))) rfl λU J=>?_;obtain⟨R5,o4,G⟩:=bnd G;obtain⟨I0,I1,I2,I3,v8⟩:=aLf k4 o4;refine x_v (v:=.slice I0 I1 I2) J (aD7 I3 (aA3 jH jX rfl (J.ev rfl) (J.ev rfl) (J.ev rfl) (oH (X.imm 4 k4 rfl) o4).1 (oH (X.imm 4 k4 rfl) o4).2.1 (oH (X.imm 4 k4 rfl) o4).2.2.1)) rfl λU J=>?_;replace X:=X.pk 9 |>.pk 7;replace X:=(aV (x:=(⟨(),i4,i5⟩:S79)) X).pk 8 |>.pk 7;replace X:=(aF (x:=(⟨h9,i0,i1,i2,i3⟩:S77)) X).pk 6 |>.pk 1 |>.pk 2;obtain⟨g0,I4,G⟩:=bnd G;refine x_c aWh J rfl (lM I4 X v8 (Imm.sub hG0 (Sub.trans d6 f9)) (Gb.sub hG2 (Sub.trans d6 f9)) :) λv U w hR J=>?_;obtain⟨v9,w0,rfl,i7,X⟩:=hR;have I5:=Imm.kind (d':=(kz52 v9 w0)) (Imm.sub H1 i7) rfl (wM i7);have I6:=Imm.sub k4 i7;have R6:=Imm.sub H2 i7;have R7:=Imm.sub v8 i7;have R8:=Imm.sub H3 i7;obtain⟨I7,I8,I9,X⟩:=aY X;obtain⟨J0,J1,J2,X⟩:=aG (X.pk 2);refine x_m J rfl λU J=>wpList_nil ?_;replace X:=X.drop 9 |>.pk 4 |>.pk 4 |>.pk 8 |>.pk 4 |>.pk 7 |>.pk 6 |>.pk 8 |>.pk 7 |>.pk 8;exact hj4 f8.2.2.f0 f8.2.2.f1 f8.2.2.f2 f8.2.2.f3 f8.2.2.f4 g0.2.2.f0 g0.2.2.f1 g0.2.2.f2 g0.2.2.f3 g0.2.2.f4 f8.2.1.f1 f8.2.1.f2 f8.1 g0.2.1.f1 g0.2.1.f2 g0.1 G v9 w0 H7 H8 H9 J0 J1 J2 H4 H5 H6 I7 I8 I9 (Sub.trans (Sub.trans d6 f9) i7) I5 I6 U w (J.sub _ rfl) X
     refine ws λR9 J3=>xk 1 J rfl λU J=>aO aOi J (λU J=>?_) rfl;refine aM uu5 (X.cell 4 rfl 1 _ rfl) J (λU J=>?_) rfl;refine eP G J (aIh rfl (J.ev rfl) (J.ev rfl) (by decide)) rfl λJ4 J5 U J G=>eP G J (aQ uu5 uu3 rfl (J.ev rfl)) rfl λJ6 J7 U J G=>?_;replace X:=(aV (x:=j2.2) (X.pk 7 |>.pk 3)).pk 5 |>.pk 2;replace X:=(aF (x:=(⟨h4,h5,h6,h7,h8⟩:S77)) X).pk 7 |>.pk 1 |>.pk 2;obtain⟨g1,J8,G⟩:=bnd G;refine x_c aYc J rfl (mU J8 X (Imm.sub hG0 d6) (Gb.sub hG2 d6) :) λv U w hR J=>?_;obtain⟨J9,K0,rfl,i8,X⟩:=hR;have K1:=Imm.kind (d':=(kz52 J9 K0)) (Imm.sub k0 i8) rfl (wM i8);have K2:=Imm.sub f7 i8;have K3:=Imm.sub u4 i8;obtain⟨K4,K5,K6,X⟩:=aY X;obtain⟨K7,K8,K9,X⟩:=aG (X.pk 2);refine x_m J rfl λU J=>wn (J3 _ _ ?_);refine aD (x_m J rfl λU J=>?_);refine aO aOi J (λU J=>?_) rfl;refine aM uu5 (X.cell 7 rfl 1 _ rfl) J (λU J=>?_) rfl;refine x_v (v:=.int .u8 J4) J (cO J5 (aIh rfl (J.ev rfl) (J.ev rfl) (by decide))) rfl λU J=>x_v (v:=.int .i64 J6) J (cO J7 (aQ uu5 uu3 rfl (J.ev rfl))) rfl λU J=>?_;replace X:=X.pk 9 |>.pk 7;replace X:=(aV (x:=(⟨(),i4,i5⟩:S79)) X).pk 8 |>.pk 7;replace X:=(aF (x:=(⟨h9,i0,i1,i2,i3⟩:S77)) X).pk 6 |>.pk 1 |>.pk 2;obtain⟨g2,L1,G⟩:=bnd G;refine x_c aYc J rfl (mU L1 X (Imm.sub hG0 (Sub.trans d6 i8)) (Gb.sub hG2 (Sub.trans d6 i8)) :) λv U w hR J=>?_;obtain⟨w1,w2,rfl,k5,X⟩:=hR;have L3:=Imm.kind (d':=(kz52 w1 w2)) (Imm.sub K1 k5) rfl (wM k5);have L4:=Imm.sub K2 k5;have S0:=Imm.sub K3 k5;obtain⟨L5,L6,L7,X⟩:=aY X;obtain⟨L8,L9,M0,X⟩:=aG (X.pk 2);refine x_m J rfl λU J=>wpList_nil ?_;replace X:=X.drop 9 |>.pk 4 |>.pk 4 |>.pk 8 |>.pk 4 |>.pk 7 |>.pk 6 |>.pk 8 |>.pk 7 |>.pk 8;exact hj4 g1.2.2.f0 g1.2.2.f1 g1.2.2.f2 g1.2.2.f3 g1.2.2.f4 g2.2.2.f0 g2.2.2.f1 g2.2.2.f2 g2.2.2.f3 g2.2.2.f4 g1.2.1.f1 g1.2.1.f2 g1.1 g2.2.1.f1 g2.2.1.f2 g2.1 G w1 w2 K7 K8 K9 L8 L9 M0 K4 K5 K6 L5 L6 L7 (Sub.trans (Sub.trans d6 i8) k5) L3 L4 U w (J.sub _ rfl) X
    refine ws λS1 M1=>xk 2 J rfl λU J=>aW jH (X.imm 9 f7 rfl).2.1 J (λU J=>?_) rfl;refine eP G J (aQ uu3 bS rfl (J.ev rfl)) rfl λM2 M3 U J G=>x_m J rfl λU J=>x_l G J rfl λw3 M4 U J G=>nk 1 J rfl λU J=>M1 _ _ (aX J G rfl (λM5 G=>?_) λM5 G=>?_)
    ·refine aD (x_m J rfl λU J=>?_);refine aW jH (X.imm 9 f7 rfl).2.1 J (λU J=>?_) rfl;refine x_v (v:=.int .u64 M2) J (cO M3 (aQ uu3 bS rfl (J.ev rfl))) rfl λU J=>x_m J rfl λU J=>x_v (v:=.int .u64 w3) J (cO M4 (zG rfl (J.ev rfl) (J.ev rfl))) rfl λU J=>x_m J rfl λU J=>wpList_nil ?_;replace X:=X.pk 9 |>.pk 9 |>.pk 3 |>.pk 9 |>.pk 9 |>.pk 6 |>.pk 9 |>.pk 7 |>.pk 9 |>.pk 9;exact hj3 w3 G U w (J.sub _ rfl) X
    replace X:=X.pk 9 |>.pk 9 |>.pk 3 |>.pk 9 |>.pk 9 |>.pk 6 |>.pk 9 |>.pk 7 |>.pk 9 |>.pk 9;exact wp_skip (hj3 C3 G U w (J.sub _ rfl) X)
   replace X:=X.drop 0 |>.drop 0 |>.drop 0 |>.drop 0 |>.drop 0 |>.drop 0 |>.drop 0 |>.drop 0;cases G;exact wp_exit (A9 (q3 _ rfl) e8 e9 d6 U w (J.sub _ rfl) X)
  refine aD (xk 2 J rfl λU J=>?_);refine aW bCr (X.imm 8 k0 rfl).2.1 J (λU J=>?_) rfl;refine xk 2 J rfl λU J=>bcG G (λt0 G=>?_) λt0 G=>?_
  ·exact ng 3 t0 J rfl rfl λU J=>hj2 (decide (b7<20)) G U w (J.sub _ rfl) X
  exact ng 3 t0 J rfl rfl λU J=>hj2 false G U w (J.sub _ rfl) X
 refine aD (xk 3 J rfl λU J=>?_);refine bcG G (λt1 G=>?_) λt1 G=>?_
 ·refine ng 3 t1 J rfl rfl λU J=>?_;replace X:=X.pk 4 |>.pk 2 |>.pk 6 |>.pk 5 |>.pk 8 |>.pk 5 |>.pk 7 |>.pk 7 |>.pk 8;exact hj1 true G U w (J.sub _ rfl) X
 refine ng 3 t1 J rfl rfl λU J=>?_;replace X:=X.pk 4 |>.pk 2 |>.pk 6 |>.pk 5 |>.pk 8 |>.pk 5 |>.pk 7 |>.pk 7 |>.pk 8;exact hj1 (g3.2.1 != 0) G U w (J.sub _ rfl) X
end Go.Proofs.YtdkpjpoajlmmfaaGreatDoor.M
namespace Go.Proofs.YtdkpjpoajlmmfaaGreatDoor.catalogTwins
open Go Go.RowKit Go.ChangeShapes Go.WideShapes Go.ChangeAt Go.Proofs.YtdkpjpoajlmmfaaGreatDoor.E Go.Proofs.YtdkpjpoajlmmfaaGreatDoor.M
set_option linter.unusedVariables false
theorem own:ownKnob Tryz.prog.godebug=none:=by kernel_rfl
theorem aPp:laidOutB Tryz.prog=true:=by kernel_rfl
theorem gN0 : Tryz.prog.globalNamed "headrace/page.table" = some 0 := by kernel_rfl
theorem gT0:(Tryz.prog.globals[0]?).map (·.type)=some 174:=by kernel_rfl
theorem gN2 : Tryz.prog.globalNamed "internal/strconv.uint64pow10" = some 2 := by kernel_rfl
theorem gT2:(Tryz.prog.globals[2]?).map (·.type)=some 200:=by kernel_rfl
theorem aT1 (os:Os) (args:Array Value):laidMetH Tryz.prog Rows.catalogTwinsRow.laid ((World.doorLaid Tryz.prog 400 os).forCall (λ_ _=>0) ⟨#[],args,[]⟩).memory :=
  laidMetH_of_parts3 (fuel:=8) (laidMet_of_run' 8 (by kernel_rfl) (by kernel_rfl)) (by kernel_rfl) (by kernel_rfl)
theorem aTd {W:World} (h:laidMetH Tryz.prog Rows.catalogTwinsRow.laid W):Imm (aEr W) W (kI .u32) (some ⟨0,0,none⟩) 16 16 M.bX:=by
  rw [MakeChecks.laidMetH_plain _ _ _ (by kernel_rfl)] at h;replace h := h.filter (fun x => x.1 == "headrace/page.table")
  exact aVn gN0 gT0 Tryz.underlying174 Tryz.underlying67 bD5 rfl (by decide) h
theorem aRq {W:World} (h:laidMetH Tryz.prog Rows.catalogTwinsRow.laid W):Gb (aEr W) W 2 .u64 M.bK:=by
  rw [MakeChecks.laidMetH_plain _ _ _ (by kernel_rfl)] at h;replace h := h.filter (fun x => x.1 == "internal/strconv.uint64pow10")
  exact aX3 gN2 gT2 Tryz.underlying200 Tryz.underlying24 bA6 (by kernel_rfl) h
def aY9:Prop:=∀ (a0:(List M.S61)) (a1:(List M.S52)),(gL 48 M.g61) a0->(gL 32 M.g52) a1->M.mA a0 a1=some true
set_option maxRecDepth 100000 in
theorem aX5 (hP:aY9) (os:Os) (started:os.Started) (H:Type) (enc:TypeId×Value->H) :
    ReturnsInHanded {} Tryz.checked os 4 .any (λw args=>(Rows.catalogTwinsSpec.pre enc Tryz.prog Tryz.f4 [] false w args/\laidMetH Tryz.prog Rows.catalogTwinsRow.laid w)/\sizedMet enc Tryz.prog Tryz.f4 (OpenSpec.ofChange Rows.catalogTwinsSpec) false w args)
      (Rows.catalogTwinsSpec.post enc Tryz.prog Tryz.f4 false true false false):=by
  refine returnsInHanded_of_change_and (C:=Tryz.checked) (X:=λw _=>laidMetH Tryz.prog Rows.catalogTwinsRow.laid w) (λ_ _ _ hh h=>h.of_heap hh) own started (by kernel_rfl) Tryz.func4
    (ChangeSpec.witness_shaped (enc:=enc) (C:=Tryz.checked) (os:=os) (X:=λw _=>laidMetH Tryz.prog Rows.catalogTwinsRow.laid w) false (World.doorLaid Tryz.prog 400 os) #[.slice none 0 0,.slice none 0 0] 8 rfl (World.shaped_of_RefB (by kernel_rfl) (by kernel_rfl)) (by kernel_rfl) (by kernel_rfl) (by kernel_rfl) (aT1 os _)) ?_
  intro W base args ds gs before hval0 hW hcnd hsz0 hL _;have hsz:(DataW.weightsEach Tryz.prog (Tryz.f4.params.toList++Rows.catalogTwinsSpec.plain.varTypes Tryz.prog) (ds++gs)).all (· <= reachBytes)=true:=hsz0
  have hval:∀ (j:Nat) t v,Tryz.f4.params[j]?=some t->args[j]?=some v->Value.okWide Tryz.prog W .any base t v:=hval0;have hW':=hW;obtain⟨p,q,hA0,hV,rfl,hfz,hnd⟩:=hW;have hA:DataW.TrodAll enc Tryz.prog W 0 (λ_=>true) true Tryz.f4.params.toList args.toList ds p:=hA0;rw [Tryz.params4] at hA hval hsz;obtain⟨v0,vs0,d0,ds0,p0,q0,hargs,rfl,rfl,h0,r0⟩:=trodAll_cons hA;obtain⟨v1,vs1,d1,ds1,p1,q1,rfl,rfl,rfl,h1,r1⟩:=trodAll_cons r0;obtain⟨rfl,rfl,rfl⟩:=trodAll_nil r1;obtain rfl:args=#[v0,v1]:=by cases args; simp_all
  obtain⟨rfl,rfl⟩:=trodVars_none hV;have k0:=h0;have lt0:∀ x∈p0,x.block<W.heap.size:=by obtain⟨m,hm⟩:=k0; exact DataW.trod_lt m _ _ _ hm
  obtain⟨x0,hx0,g0⟩:=Opens.arg (aYb Tryz.underlying22 bBd (Nat.succ_pos _) bDq op61) h0 (Wt.of hsz (j:=0) rfl rfl);obtain⟨A0,n0,c0,rfl⟩:=okWide_slice Tryz.underlying22 (hval 0 22 v0 rfl rfl);obtain⟨A0',n0',c0',he0,i0⟩:=hx0;cases (show [Value.slice A0 n0 c0]=[Value.slice A0' n0' c0'] from he0);have k1:=h1;have lt1:∀ x∈p1,x.block<W.heap.size:=by obtain⟨m,hm⟩:=k1; exact DataW.trod_lt m _ _ _ hm
  obtain⟨x1,hx1,g1⟩:=Opens.arg (aYb Tryz.underlying49 bCs (Nat.succ_pos _) bEv op52) h1 (Wt.of hsz (j:=1) rfl rfl);obtain⟨A1,n1,c1,rfl⟩:=okWide_slice Tryz.underlying49 (hval 1 49 v1 rfl rfl);obtain⟨A1',n1',c1',he1,i1⟩:=hx1;cases (show [Value.slice A1 n1 c1]=[Value.slice A1' n1' c1'] from he1);clear hA0 hval0 hsz0 hsz;refine Calls.mono (M.aCf (Z:=aEr W) (wz:=W) x0 x1 A0 n0 c0 A1 n1 c1 (hP x0 x1 g0 g1) i0 i1 (aTd hL) (aRq hL) (L:=[]) (SH.start W)) ?_;rintro e W' ⟨v,rfl,Z',wz',rfl,hs,hS⟩;have bel:=SH.below hS hs;exact⟨_,rfl,_,_,_,[],_,[],hW',trodAll_mk1 (shut_bool Tryz.underlying4 _),(trodAll_cons_mk (Below.trod aPp (by kernel_rfl) (of_decide_eq_true (by kernel_rfl)) k0 bel lt0) (trodAll_cons_mk (Below.trod aPp (by kernel_rfl) (of_decide_eq_true (by kernel_rfl)) k1 bel lt1) trodAll_mk0)),rfl,bel.frame _,λh=>by cases h⟩
theorem bD0 (hP:aY9):Rows.catalogTwinsRow.holds Tryz.pinned (OpenSpec.ofChange Rows.catalogTwinsSpec) :=
  OpenClaim.holds_of_wide 4 Tryz.f4 rfl rfl rfl rfl rfl rfl rfl ⟨rfl,rfl,rfl,rfl,rfl⟩ rfl rfl rfl rfl rfl (by kernel_rfl) Tryz.func4 (by kernel_rfl)
    (of_decide_eq_true (by kernel_rfl)) (by unfold Func.isWrapper; first | (rw [if_pos (by decide +kernel)]; kernel_rfl) | (rw [if_neg (by decide +kernel)]; exact⟨rfl,rfl⟩))
    (λos started H enc _=>aX5 hP os started H enc)
def hrn:Bool×String:=Rows.catalogTwinsCard.stood.harness
theorem card (hP:aY9):Rows.CatalogTwinsCardSaid :=
  Claim7.holds_tied_plain_at .later [] [.data,.data,.data,.data] true hrn true
    (bD0 hP) (λ_ h=>by cases h) (by kernel_rfl) (λ_ h=>by cases h) catalogTwins_row_tie rfl ⟨rfl,rfl⟩ (by kernel_rfl) rfl
    (λf fn hf hfn=>by
      obtain rfl : f = 4 := Option.some.inj ((show Tryz.prog.funcNamed "headrace/headracelaw08.CatalogTwins" = some 4 by kernel_rfl).symm.trans hf) |>.symm
      obtain rfl:fn=Tryz.f4:=(Option.some.inj (Tryz.func4.symm.trans hfn)).symm;exact⟨by kernel_rfl,λj t ht=>by
        rw [Tryz.params4] at ht;have hm:t∈[22,49]:=by simpa using Array.mem_of_getElem? ht
        have hall:([22,49].all λu => !Tryz.prog.wantsStandIn u)=true:=by kernel_rfl
        exact (show Tryz.prog.wantsStandIn t=false by simpa using List.all_eq_true.1 hall t hm)⟩)
    (by kernel_rfl)
end Go.Proofs.YtdkpjpoajlmmfaaGreatDoor.catalogTwins
namespace Go.Proofs.YtdkpjpoajlmmfaaGreatDoor.P
open Go Go.RowKit Go.Proofs.YtdkpjpoajlmmfaaGreatDoor.E Go.Proofs.YtdkpjpoajlmmfaaGreatDoor.M
set_option linter.unusedVariables false
set_option linter.unusedSectionVars false
theorem aN2 {α:Type} (xs:List α) (n:Nat):at_ xs (n:Int)=xs[n]?:=by simp [at_]
theorem bG {α:Type} {xs:List α} {i:Int} {n:Nat} {x:α} (hi:i=n) (h:xs[n]?=some x):at_ xs i=some x:=by subst hi; rw [aN2,h]
theorem sE {α:Type} {xs:List α} {l u:Nat} (h:l<=u) (hu:u<=xs.length):kX xs (l:Int) (u:Int)=some ((xs.take u).drop l):=by unfold kX; rw [if_pos (by omega)]; simp
theorem bM {α:Type} {p:Prop} [Decidable p] {x:Option α} (h:p):chk p x=x:=if_pos h
theorem w64 {n:Int} (h : -9223372036854775808<=n) (h':n<=9223372036854775807):IntKind.i64.wrap n=n:=IntWalk.i64_in n ⟨h,h'⟩
theorem nO {n:Int} (h:0<=n) (h':n<18446744073709551616):IntKind.u64.wrap n=n:=IntWalk.u64_in n ⟨h,by omega⟩
theorem u8w {n:Int} (h:0<=n) (h':n<256):IntKind.u8.wrap n=n:=IntWalk.u8_in n ⟨h,by omega⟩
theorem lt_ {α β:Type} (e:α) (f:α->Option β):ltt e f=f e:=rfl
theorem aPz {σ τ:Type} {b:σ->Option (σ⊕τ)} (f:Nat->σ) {t:τ}:∀ (n:Nat) (i:Nat),(∀ k,i<=k->k<i+n->b (f k)=some (.inl (f (k+1))))->b (f (i+n))=some (.inr t)->loop b (f i)=some t
 | 0,i,_,he=>bF he
 | n+1,i,hs,he=>(cH (hs i (Nat.le_refl _) (by omega))).trans (aPz f n (i+1) (λk h1 h2=>hs k (by omega) (by omega)) (by rw [show i+1+n=i+(n+1) by omega]; exact he))
theorem kD {σ τ:Type} {b:σ->Option (σ⊕τ)} (f:Nat->σ) {t:τ} (n:Nat) (hs:∀ k,k<n->b (f k)=some (.inl (f (k+1)))) (he:b (f n)=some (.inr t)):loop b (f 0)=some t :=
 aPz f n 0 (λk _ h=>hs k (by omega)) (by simpa using he)
theorem fB (n a:Nat):BitVec.ofInt n (a:Int)=BitVec.ofNat n a:=BitVec.ofInt_natCast n a
theorem aEg (a:Nat):IntKind.u64.wrap (a:Int)=((a % 18446744073709551616:Nat):Int):=by rw [IntKind.wrap_u64]; omega
theorem wU (a:Nat):IntKind.u8.wrap (a:Int)=((a % 256:Nat):Int):=by rw [IntKind.wrap_u8]; omega
theorem aGx {a b:Nat} (ha:a<18446744073709551616) (hb:b<18446744073709551616):aAv .u64 (a:Int) (b:Int)=((a &&& b:Nat):Int):=by unfold aAv;rw [fB,fB,aEg];have h:a &&& b<18446744073709551616:=Nat.lt_of_le_of_lt Nat.and_le_left ha;simp only [BitVec.toNat_and,BitVec.toNat_ofNat,show IntKind.u64.bits=64 from rfl];rw [Nat.mod_eq_of_lt (show a<2 ^ 64 by omega),Nat.mod_eq_of_lt (show b<2 ^ 64 by omega),Nat.mod_eq_of_lt h]
theorem aVl {a b:Nat} (ha:a<256) (hb:b<256):aAv .u8 (a:Int) (b:Int)=((a &&& b:Nat):Int):=by unfold aAv;rw [fB,fB,wU];have h:a &&& b<256:=Nat.lt_of_le_of_lt Nat.and_le_left ha;simp only [BitVec.toNat_and,BitVec.toNat_ofNat,show IntKind.u8.bits=8 from rfl];rw [Nat.mod_eq_of_lt (show a<2 ^ 8 by omega),Nat.mod_eq_of_lt (show b<2 ^ 8 by omega),Nat.mod_eq_of_lt h]
theorem aWg {a b:Nat} (ha:a<18446744073709551616) (hb:b<18446744073709551616):ior .u64 (a:Int) (b:Int)=((a ||| b:Nat):Int):=by unfold ior;rw [fB,fB,aEg];have h:a ||| b<2 ^ 64:=Nat.or_lt_two_pow (show a<2 ^ 64 by omega) (show b<2 ^ 64 by omega);simp only [BitVec.toNat_or,BitVec.toNat_ofNat,show IntKind.u64.bits=64 from rfl];rw [Nat.mod_eq_of_lt (show a<2 ^ 64 by omega),Nat.mod_eq_of_lt (show b<2 ^ 64 by omega),Nat.mod_eq_of_lt (show a ||| b<18446744073709551616 from h)]
theorem aTa {a b:Nat} (ha:a<256) (hb:b<256):ior .u8 (a:Int) (b:Int)=((a ||| b:Nat):Int):=by unfold ior;rw [fB,fB,wU];have h:a ||| b<2 ^ 8:=Nat.or_lt_two_pow (show a<2 ^ 8 by omega) (show b<2 ^ 8 by omega);simp only [BitVec.toNat_or,BitVec.toNat_ofNat,show IntKind.u8.bits=8 from rfl];rw [Nat.mod_eq_of_lt (show a<2 ^ 8 by omega),Nat.mod_eq_of_lt (show b<2 ^ 8 by omega),Nat.mod_eq_of_lt (show a ||| b<256 from h)]
theorem aSs {a b:Nat} (ha:a<18446744073709551616) (hb:b<18446744073709551616):zW .u64 (a:Int) (b:Int)=((a ^^^ b:Nat):Int):=by unfold zW;rw [fB,fB,aEg];have h:a ^^^ b<2 ^ 64:=Nat.xor_lt_two_pow (show a<2 ^ 64 by omega) (show b<2 ^ 64 by omega);simp only [BitVec.toNat_xor,BitVec.toNat_ofNat,show IntKind.u64.bits=64 from rfl];rw [Nat.mod_eq_of_lt (show a<2 ^ 64 by omega),Nat.mod_eq_of_lt (show b<2 ^ 64 by omega),Nat.mod_eq_of_lt (show a ^^^ b<18446744073709551616 from h)]
theorem aEm (n:Nat):(2:Int) ^ n=((2 ^ n:Nat):Int):=(Int.natCast_pow 2 n).symm
theorem lZ {k:IntKind} (a n:Nat) (h:n<=k.bits):pH k (a:Int) (n:Int)=((a / 2 ^ n:Nat):Int):=by unfold pH;rw [Int.toNat_natCast,Nat.min_eq_left h,aEm,Int.fdiv_eq_ediv_of_nonneg _ (Int.natCast_nonneg _)];rfl
theorem aLs (a n:Nat) (h:n<=64):wD .u64 (a:Int) (n:Int)=((a * 2 ^ n % 18446744073709551616:Nat):Int):=by unfold wD;rw [Int.toNat_natCast,show min n IntKind.u64.bits=n from Nat.min_eq_left h,aEm, ← Int.natCast_mul,aEg]
theorem aWe (a n:Nat) (h:n<=8):wD .u8 (a:Int) (n:Int)=((a * 2 ^ n % 256:Nat):Int):=by unfold wD;rw [Int.toNat_natCast,show min n IntKind.u8.bits=n from Nat.min_eq_left h,aEm, ← Int.natCast_mul,wU]
theorem aBa {a n:Nat} (h:a<2 ^ n) (b:Nat):a ||| (b * 2 ^ n)=a+b * 2 ^ n:=by rw [Nat.or_comm,Nat.mul_comm, ← Nat.two_pow_add_eq_or_of_lt h,Nat.add_comm]
def uv (n:Nat):List Int:=if h:n<128 then [(n:Int)] else ((n % 128+128:Nat):Int)::uv (n / 128)
termination_by n
decreasing_by omega
theorem aBr {n:Nat} (h:n<128):uv n=[(n:Int)]:=by rw [uv,dif_pos h]
theorem aB7 {n:Nat} (h:¬ n<128):uv n=((n % 128+128:Nat):Int)::uv (n / 128):=by rw [uv,dif_neg h]
theorem aIz:∀ (k n:Nat),n<128 ^ (k+1)->(uv n).length<=k+1
 | 0,n,h=>by rw [aBr (by simpa using h)]; simp
 | k+1,n,h=>by
  by_cases hn:n<128
  ·rw [aBr hn]; simp
  ·rw [aB7 hn,List.length_cons];have:=aIz k (n / 128) (by rw [Nat.pow_succ] at h; exact Nat.div_lt_of_lt_mul (by rw [Nat.mul_comm]; exact h));omega
theorem aL {n:Nat} (h:n<18446744073709551616):(uv n).length<=10:=aIz 9 n (by omega)
set_option maxRecDepth 100000 in
theorem aY1:∀ m:Fin 256,(m.val ||| 128)=m.val % 128+128:=by decide
theorem sU (n:Nat):∀ (a0:List Int),n<18446744073709551616->a0.length+(uv n).length<=140737488355328->fU a0 (n:Int)=some (a0++uv n):=by
 induction n using Nat.strongRecOn with
 | _ n ih =>
  intro a0 h hl;unfold fU;by_cases hn:n<128
  ·rw [bF (t:=(a0,(n:Int))) (by
    show mE a0 (n:Int)=_;unfold mE;rw [if_neg (by simp only [decide_eq_true_eq]; omega)])]
   simp only [Option.bind_some];unfold rY uU;rw [aBr hn] at hl ⊢;rw [lt_,u8w (by omega) (by omega),bM (by simpa using hl)]
  ·have hl':=hl;rw [aB7 hn,List.length_cons] at hl';have e1:IntKind.u8.wrap (n:Int)=((n % 256:Nat):Int):=wU n;have e2:ior .u8 ((n % 256:Nat):Int) 128=((n % 128+128:Nat):Int):=by have:=aTa (a:=n % 256) (b:=128) (by omega) (by omega);rw [show ((128:Nat):Int)=128 from rfl] at this;rw [this,aY1 ⟨n % 256,by omega⟩];simp only;omega
   have e3:pH .u64 (n:Int) 7=((n / 128:Nat):Int):=lZ (k:=.u64) n 7 (by decide);rw [cH (s':=(a0++[((n % 128+128:Nat):Int)],((n / 128:Nat):Int))) (by
    show mE a0 (n:Int)=_;unfold mE;rw [if_pos (by simp only [decide_eq_true_eq]; omega),lt_,e1,lt_,e2,bM (by simp; omega),lt_,e3])]
   have:=ih (n / 128) (by omega) (a0++[((n % 128+128:Nat):Int)]) (by omega) (by simp; omega);unfold fU at this;rw [this,aB7 hn];simp
def zz (i:Int):Nat:=if i<0 then (-(i+1)).toNat * 2+1 else i.toNat * 2
def uz (n:Nat):Int:=if n % 2=1 then -((n / 2:Nat):Int) - 1 else ((n / 2:Nat):Int)
theorem bC7 (i:Int):uz (zz i)=i:=by unfold uz zz; split <;> split <;> omega
def i64 (i:Int):Prop := -9223372036854775808<=i/\i<=9223372036854775807
theorem wF {i:Int} (h:i64 i):zz i<18446744073709551616:=by unfold i64 at h;unfold zz; split <;> omega
theorem aCi (x:Int):i64 (IntKind.i64.wrap x):=by rw [IntWalk.i64_left]; unfold wrap64 i64; omega
theorem aR7 {a:Nat} (h:a<18446744073709551616):zW .u64 (a:Int) 18446744073709551615=((18446744073709551615 - a:Nat):Int):=by show IntKind.u64.wrap (((BitVec.ofInt 64 (a:Int) ^^^ BitVec.allOnes 64).toNat:Nat):Int)=_;rw [fB,BitVec.xor_allOnes,aEg,BitVec.toNat_not,BitVec.toNat_ofNat,Nat.mod_eq_of_lt (show a<2 ^ 64 by omega)];omega
theorem bBh {i:Int} (h:i64 i):zW .u64 (IntKind.u64.wrap (wD .i64 i 1)) (IntKind.u64.wrap (pH .i64 i 63))=(zz i:Int):=by
 unfold i64 at h;have e1:wD .i64 i 1=IntKind.i64.wrap (i * 2):=rfl;have e2:pH .i64 i 63=if i<0 then -1 else 0:=by unfold pH;rw [show (63:Int).toNat=63 from rfl,show min 63 IntKind.i64.bits=63 from rfl,Int.fdiv_eq_ediv_of_nonneg _ (by decide)];split <;> omega
 rw [e1,e2];have e3:IntKind.u64.wrap (IntKind.i64.wrap (i * 2))=(i * 2) % 18446744073709551616:=by rw [IntKind.wrap_u64,IntWalk.i64_left]; unfold wrap64; omega
 rw [e3];unfold zz;by_cases hi:i<0
 ·rw [if_pos hi,if_pos hi,show IntKind.u64.wrap (-1)=18446744073709551615 from rfl];obtain⟨m,hm⟩:∃ m:Nat,(i * 2) % 18446744073709551616=(m:Int):=⟨((i * 2) % 18446744073709551616).toNat,by omega⟩;rw [hm,aR7 (by omega)];omega
 ·rw [if_neg hi,if_neg hi,show IntKind.u64.wrap 0=((0:Nat):Int) from rfl];obtain⟨m,hm⟩:∃ m:Nat,(i * 2) % 18446744073709551616=(m:Int):=⟨((i * 2) % 18446744073709551616).toNat,by omega⟩;rw [hm,aSs (by omega) (by omega),Nat.xor_zero];omega
theorem zA {i:Int} (h:i64 i) (a0:List Int) (hl:a0.length+10<=140737488355328):lH a0 i=some (a0++uv (zz i)):=by unfold lH;have:=aL (wF h);simp only [lt_,bBh h,sU _ a0 (wF h) (by omega),Option.bind_some]
theorem aEd (s:List UInt8) (a0:List Int) (hs:s.length<=9223372036854775807) (hl:a0.length+s.length+10<=140737488355328):nL a0 s=some (a0++uv s.length++stb s):=by unfold nL;have:=aL (n:=s.length) (by omega);rw [lt_,nO (by omega) (by omega),sU _ a0 (by omega) (by omega)];simp only [Option.bind_some];rw [bM (by simp; omega)]
def Bs (xs:List Int):Prop:=∀ b∈xs,0<=b/\b<256
theorem Bs.nil:Bs []:=λ_ h=>by cases h
theorem Bs.cons {b:Int} {xs:List Int} (h:Bs (b::xs)):(0<=b/\b<256)/\Bs xs:=⟨h b List.mem_cons_self,λc hc=>h c (List.mem_cons_of_mem _ hc)⟩
theorem Bs.mk {b:Int} {xs:List Int} (hb:0<=b/\b<256) (h:Bs xs):Bs (b::xs):=λc hc=>by
 rcases List.mem_cons.1 hc with rfl | hc
 ·exact hb
 ·exact h c hc
theorem Bs.app {xs ys:List Int} (h:Bs xs) (h':Bs ys):Bs (xs++ys):=λc hc=>(List.mem_append.1 hc).elim (h c) (h' c)
theorem Bs.l {xs ys:List Int} (h:Bs (xs++ys)):Bs xs:=λc hc=>h c (List.mem_append.2 (.inl hc))
theorem Bs.r {xs ys:List Int} (h:Bs (xs++ys)):Bs ys:=λc hc=>h c (List.mem_append.2 (.inr hc))
theorem Bs.drop {xs:List Int} (h:Bs xs) (n:Nat):Bs (xs.drop n):=λc hc=>h c (List.mem_of_mem_drop hc)
theorem Bs.take {xs:List Int} (h:Bs xs) (n:Nat):Bs (xs.take n):=λc hc=>h c (List.mem_of_mem_take hc)
theorem Bs.uv (n:Nat):Bs (uv n):=by
 induction n using Nat.strongRecOn with
 | _ n ih =>
  by_cases hn:n<128
  ·rw [aBr hn]; exact Bs.mk (by omega) Bs.nil
  ·rw [aB7 hn]; exact Bs.mk (by omega) (ih _ (by omega))
theorem Bs.stb (s:List UInt8):Bs (stb s):=by intro c hc;unfold E.stb at hc;obtain⟨b,_,rfl⟩:=List.mem_map.1 hc;have:=b.toNat_lt;omega
def pB:List Int->Option (Int×List Int)
 | []=>none
 | b::r=>some (b,r)
def pV (i n:Nat):List Int->Option (Nat×List Int)
 | []=>none
 | b::r=>if i<9\/(i=9/\b<2) then
   (if b<128 then (if i=0\/0<b then some (n+b.toNat % 128 * 2 ^ (7 * i),r) else none) else pV (i+1) (n+b.toNat % 128 * 2 ^ (7 * i)) r)
  else none
def pU (most:Int) (xs:List Int):Option (Int×List Int):=match pV 0 0 xs with
 | some (n,r)=>if (n:Int)<=most then some ((n:Int),r) else none
 | none=>none
def pI (xs:List Int):Option (Int×List Int):=match pU 18446744073709551615 xs with
 | some (n,r)=>some (uz n.toNat,r)
 | none=>none
def pT (most:Int) (xs:List Int):Option (List UInt8×List Int):=match pU (IntKind.u64.wrap most) xs with
 | some (n,r)=>if n<=(r.length:Int) then some (bts (r.take n.toNat),r.drop n.toNat) else none
 | none=>none
def IsR {ρ:Type} (o:Option ((ρ×S140)⊕S140)) (p:Option (ρ×List Int)):Prop :=
 match p with
 | some (a,r)=>o=some (.inl (a,⟨r⟩))
 | none=>∃ s,o=some (.inr s)
theorem IsR.cases {ρ:Type} {o:Option ((ρ×S140)⊕S140)} {p:Option (ρ×List Int)} (h:IsR o p):(∃ a r,p=some (a,r)/\o=some (.inl (a,⟨r⟩)))\/(p=none/\∃ s,o=some (.inr s)):=by
 unfold IsR at h;split at h
 ·exact .inl ⟨_,_,rfl,h⟩
 ·exact .inr ⟨rfl,h⟩
theorem iA {α β γ:Type} (a:α) (f:α->Option γ) (g:β->Option γ):fL (.inl a) f g=f a:=rfl
theorem mN (s:S140):aI s true=some (.inl s):=rfl
theorem rS (s:S140):aI s false=some (.inr s):=rfl
theorem aKx (xs:List Int):IsR (fS ⟨xs⟩) (pB xs):=by
 unfold fS;cases xs with
 | nil=>exact⟨_,rfl⟩
 | cons b r =>
  rw [show decide (0<(((⟨b::r⟩:S140).f0.length:Nat):Int))=true by simp,mN];simp only [Option.bind_some,iA];have h1:at_ (b::r) 0=some b:=rfl;have h2:kX (b::r) 1 ((b::r).length:Int)=some r:=by have:=sE (xs:=b::r) (l:=1) (u:=(b::r).length) (by simp) (Nat.le_refl _);rw [show ((1:Nat):Int)=1 from rfl,List.take_length] at this;exact this
  rw [h1];simp only [Option.bind_some];rw [h2];rfl
theorem aU4 (a:Nat):a &&& 127=a % 128:=Nat.and_two_pow_sub_one_eq_mod a 7
theorem aWm:∀ (xs:List Int) (i n m:Nat) (r:List Int),n<2 ^ (7 * i)->n<18446744073709551616->pV i n xs=some (m,r)->m<18446744073709551616/\∃ p,xs=p++r/\0<p.length
 | [],i,n,m,r,_,_,h=>by cases h
 | b::xs,i,n,m,r,h1,h2,h=>by
  unfold pV at h;split at h
  ·rename_i hc;have hlt:n+b.toNat % 128 * 2 ^ (7 * i)<18446744073709551616/\n+b.toNat % 128 * 2 ^ (7 * i)<2 ^ (7 * (i+1)):=by
    have hp:2 ^ (7 * (i+1))=128 * 2 ^ (7 * i):=by rw [show 7 * (i+1)=7+7 * i by omega,Nat.pow_add]
    have hm:b.toNat % 128 * 2 ^ (7 * i)<=127 * 2 ^ (7 * i):=Nat.mul_le_mul_right _ (by omega);refine⟨?_,by rw [hp]; omega⟩;rcases hc with hc | ⟨hc,hb⟩
    ·have:2 ^ (7 * i)<=2 ^ 56:=Nat.pow_le_pow_right (by decide) (by omega);omega
    ·subst hc;have:b.toNat % 128 * 2 ^ (7 * 9)<=1 * 2 ^ (7 * 9):=Nat.mul_le_mul_right _ (by omega);omega
   split at h
   ·split at h
    ·cases h;exact⟨hlt.1,[b],rfl,by simp⟩
    ·cases h
   ·obtain⟨q1,p,rfl,q3⟩:=aWm xs (i+1) _ m r hlt.2 hlt.1 h;exact⟨q1,b::p,rfl,by simp⟩
  ·cases h
theorem aXa (most:Int):∀ (xs:List Int) (i n:Nat),Bs xs->i<=10->n<2 ^ (7 * i)->n<18446744073709551616 ->
  IsR (loop (λs:List Int×Int×Int=>dZ most s.1 s.2.1 s.2.2) (xs,(n:Int),(i:Int))) (match pV i n xs with | some (m,r)=>if (m:Int)<=most then some ((m:Int),r) else none | none=>none)
 | [],i,n,hB,hi,h1,h2=>⟨⟨[]⟩,bF rfl⟩
 | b::xs,i,n,hB,hi,h1,h2=>by
  obtain⟨hb,hB'⟩:=hB.cons;generalize hpv:pV i n (b::xs)=pv;have hby:fS ⟨b::xs⟩=some (.inl (b,⟨xs⟩)):=aKx (b::xs);obtain⟨c,rfl⟩:∃ c:Nat,b=(c:Int):=⟨b.toNat,by omega⟩;have hcase:(c:Int)<128\/128<=(c:Int):=by omega
  by_cases hc:i<9\/(i=9/\(c:Int)<2)
  ·
   have hp:2 ^ (7 * (i+1))=128 * 2 ^ (7 * i):=by rw [show 7 * (i+1)=7+7 * i by omega,Nat.pow_add]
   have hm:c % 128 * 2 ^ (7 * i)<=127 * 2 ^ (7 * i):=Nat.mul_le_mul_right _ (by omega);have hlt:c % 128 * 2 ^ (7 * i)<18446744073709551616/\n+c % 128 * 2 ^ (7 * i)<18446744073709551616:=by
    rcases hc with hc | ⟨hc,hb⟩
    ·have:2 ^ (7 * i)<=2 ^ 56:=Nat.pow_le_pow_right (by decide) (by omega);omega
    ·subst hc;have:c % 128 * 2 ^ (7 * 9)<=1 * 2 ^ (7 * 9):=Nat.mul_le_mul_right _ (by omega);omega
   have hlt2:n+c % 128 * 2 ^ (7 * i)<2 ^ (7 * (i+1)):=by rw [hp]; omega
   obtain⟨m,hm'⟩:∃ m,m=n+c % 128 * 2 ^ (7 * i):=⟨_,rfl⟩;have e1:aAv .u8 (c:Int) 127=((c % 128:Nat):Int):=by have:=aVl (a:=c) (b:=127) (by omega) (by omega);rw [show ((127:Nat):Int)=127 from rfl] at this;rw [this,aU4]
   have e2:IntKind.i64.wrap (7 * (i:Int))=((7 * i:Nat):Int):=by rw [w64 (by omega) (by omega)]; omega
   have e3:wD .u64 ((c % 128:Nat):Int) ((7 * i:Nat):Int)=((c % 128 * 2 ^ (7 * i):Nat):Int):=by rw [aLs _ _ (by omega),Nat.mod_eq_of_lt hlt.1]
   have e4:ior .u64 (n:Int) ((c % 128 * 2 ^ (7 * i):Nat):Int)=(m:Int):=by rw [aWg h2 hlt.1,aBa h1,hm']
   have hl1:dZ most ((c:Int)::xs) (n:Int) (i:Int)=dW most (n:Int) (i:Int) ((c:Int),⟨xs⟩) xs:=by
    unfold dZ;rw [hby];simp only [Option.bind_some,iA];rcases hc with hc | ⟨hc,hc2⟩
    ·rw [if_pos (by simp only [decide_eq_true_eq]; omega),mN]; rfl
    ·rw [if_neg (by simp only [decide_eq_true_eq]; omega),if_pos (by subst hc; rfl),show decide ((c:Int)<2)=true by simpa using hc2,mN]; rfl
   have hj:dW most (n:Int) (i:Int) ((c:Int),⟨xs⟩) xs=if (c:Int)<128 then (if (m:Int)<=most/\(i=0\/0<(c:Int)) then some (.inr (.inl ((m:Int),⟨xs⟩))) else some (.inr (.inr ⟨xs⟩))) else some (.inl (xs,(m:Int),((i+1:Nat):Int))):=by
    unfold dW;simp only [lt_];rw [e1,nO (by omega) (by omega),e2,bM (by omega),e3,e4];by_cases hc1:(c:Int)<128
    ·rw [if_pos (by simpa using hc1),if_pos hc1];by_cases hmo:(m:Int)<=most
     ·rw [if_pos (by simpa using hmo)];by_cases hi0:i=0
      ·subst hi0;rw [if_pos (by rfl),mN,if_pos ⟨hmo,.inl rfl⟩];rfl
      ·rw [if_neg (by simpa using hi0)];by_cases hc0:0<(c:Int)
       ·rw [show decide (0<(c:Int))=true by simpa using hc0,mN,if_pos ⟨hmo,.inr hc0⟩]; rfl
       ·rw [show decide (0<(c:Int))=false by simpa using hc0,rS,if_neg (by rintro⟨_,q | q⟩; exact hi0 q; exact hc0 q)]; rfl
     ·rw [if_neg (by simpa using hmo),rS,if_neg (λq=>hmo q.1)]; rfl
    ·rw [if_neg (by simpa using hc1),if_neg hc1,w64 (by omega) (by omega)]; rfl
   rw [pV,if_pos hc,Int.toNat_natCast, ← hm'] at hpv;rcases hcase with hc1 | hc1
   ·rw [if_pos hc1] at hj hpv;by_cases h0:i=0\/0<(c:Int)
    ·rw [if_pos h0] at hpv;subst hpv;simp only;by_cases hmo:(m:Int)<=most
     ·rw [if_pos ⟨hmo,h0⟩] at hj;rw [if_pos hmo];exact bF (hl1.trans hj)
     ·rw [if_neg (λq=>hmo q.1)] at hj;rw [if_neg hmo];exact⟨_,bF (hl1.trans hj)⟩
    ·rw [if_neg h0] at hpv;subst hpv;rw [if_neg (λq=>h0 q.2)] at hj;exact⟨_,bF (hl1.trans hj)⟩
   ·rw [if_neg (Int.not_lt.2 hc1)] at hj hpv;rw [cH (hl1.trans hj)];subst hpv;exact aXa most xs (i+1) m hB' (by omega) (by rw [hm']; exact hlt2) (by rw [hm']; exact hlt.2)
  ·rw [pV,if_neg hc] at hpv;subst hpv;refine⟨_,bF (t:=Sum.inr ⟨xs⟩) ?_⟩;show dZ most ((c:Int)::xs) (n:Int) (i:Int)=_;unfold dZ;rw [hby];simp only [Option.bind_some,iA];rw [if_neg (by simp only [decide_eq_true_eq]; omega)];by_cases hi9:i=9
   ·rw [if_pos (by subst hi9; rfl),show decide ((c:Int)<2)=false by simp; omega,rS]; rfl
   ·rw [if_neg (by simp; omega),rS]; rfl
theorem aCm (most:Int) {xs:List Int} (hB:Bs xs):IsR (bC ⟨xs⟩ most) (pU most xs):=by
 unfold bC pU;have:=aXa most xs 0 0 hB (by omega) (by simp) (by omega);simp only [Int.natCast_zero] at this;rcases this.cases with ⟨a,r,h1,h2⟩ | ⟨h1,s,h2⟩
 ·rw [h1]; show _=_; rw [h2]; rfl
 ·rw [h1]; exact⟨s,by rw [h2]; rfl⟩
theorem tH {most:Int} {xs r:List Int} {n:Int} (h:pU most xs=some (n,r)):(0<=n/\n<18446744073709551616/\n<=most)/\∃ p,xs=p++r/\0<p.length:=by
 unfold pU at h;split at h
 ·rename_i m r' he;split at h
  ·cases h;obtain⟨h1,h2⟩:=aWm _ _ _ _ _ (by simp) (by omega) he;exact⟨⟨by omega,by omega,by assumption⟩,h2⟩
  ·cases h
 ·cases h
theorem aNe {most:Int} {xs r:List Int} {n:Int} (hB:Bs xs) (h:pU most xs=some (n,r)):Bs r:=by obtain⟨_,p,rfl,_⟩:=tH h;exact hB.r
theorem aSp (a:Nat):a &&& 1=a % 2:=Nat.and_two_pow_sub_one_eq_mod a 1
theorem aZd {a:Nat} (h:a<9223372036854775808):zW .i64 (a:Int) (-1) = -(a:Int) - 1:=by show IntKind.i64.wrap (((BitVec.ofInt 64 (a:Int) ^^^ BitVec.allOnes 64).toNat:Nat):Int)=_;rw [fB,BitVec.xor_allOnes,BitVec.toNat_not,BitVec.toNat_ofNat,Nat.mod_eq_of_lt (show a<2 ^ 64 by omega),IntWalk.i64_left];unfold wrap64;omega
theorem bA2 {a:Nat} (h:a<9223372036854775808):zW .i64 (a:Int) 0=(a:Int):=by show IntKind.i64.wrap (((BitVec.ofInt 64 (a:Int) ^^^ 0#64).toNat:Nat):Int)=_;rw [fB,BitVec.xor_zero,BitVec.toNat_ofNat,Nat.mod_eq_of_lt (show a<2 ^ 64 by omega),w64 (by omega) (by omega)]
theorem bAu {n:Nat} (h:n<18446744073709551616):zW .i64 (IntKind.i64.wrap (pH .u64 (n:Int) 1)) (IntKind.i64.wrap (0 - IntKind.i64.wrap (aAv .u64 (n:Int) 1)))=uz n:=by
 have e1:pH .u64 (n:Int) 1=((n / 2:Nat):Int):=lZ (k:=.u64) n 1 (by decide);have e2:aAv .u64 (n:Int) 1=((n % 2:Nat):Int):=by have:=aGx (a:=n) (b:=1) h (by omega);rw [show ((1:Nat):Int)=1 from rfl] at this;rw [this,aSp]
 rw [e1,e2,w64 (n:=((n / 2:Nat):Int)) (by omega) (by omega),w64 (n:=((n % 2:Nat):Int)) (by omega) (by omega),w64 (by omega) (by omega)];unfold uz;by_cases ho:n % 2=1
 ·rw [if_pos ho,ho,show (0:Int) - ((1:Nat):Int) = -1 from rfl,aZd (by omega)]
 ·rw [if_neg ho,show n % 2=0 by omega,show (0:Int) - ((0:Nat):Int)=0 from rfl,bA2 (by omega)]
theorem aG4 {xs:List Int} (hB:Bs xs):IsR (cX ⟨xs⟩) (pI xs):=by
 unfold cX pI;rcases (aCm 18446744073709551615 hB).cases with ⟨a,r,h1,h2⟩ | ⟨h1,s,h2⟩
 ·rw [h1,h2];obtain⟨⟨q1,q2,_⟩,_⟩:=tH h1;simp only [Option.bind_some,iA,lt_];have:=bAu (n:=a.toNat) (by omega);rw [show ((a.toNat:Nat):Int)=a by omega] at this;show _=_;rw [this]
 ·rw [h1,h2];exact⟨s,rfl⟩
theorem aPx {xs r:List Int} {n:Int} (hB:Bs xs) (h:pI xs=some (n,r)):Bs r/\i64 n/\∃ p,xs=p++r/\0<p.length:=by
 unfold pI at h;split at h
 ·rename_i m r' he;cases h;refine⟨aNe hB he,?_,(tH he).2⟩;have:=(tH he).1;unfold i64 uz;split <;> omega
 ·cases h
theorem aKt (most:Int) {xs:List Int} (hB:Bs xs) (hl:xs.length<9223372036854775808):IsR (eU ⟨xs⟩ most) (pT most xs):=by
 unfold eU pT;rw [lt_];rcases (aCm (IntKind.u64.wrap most) hB).cases with ⟨a,r,h1,h2⟩ | ⟨h1,s,h2⟩
 ·rw [h1,h2];obtain⟨⟨q1,q2,_⟩,p,hp,_⟩:=tH h1;have hr:r.length<=xs.length:=by rw [hp]; simp
  simp only [Option.bind_some,iA,lt_];rw [nO (by omega) (by omega)];obtain⟨n,rfl⟩:∃ n:Nat,a=(n:Int):=⟨a.toNat,by omega⟩;by_cases hn:(n:Int)<=(r.length:Int)
  ·rw [show decide ((n:Int)<=(r.length:Int))=true by simpa using hn,mN,if_pos hn];simp only [Option.bind_some,iA];have c1:=sE (xs:=r) (l:=0) (u:=n) (by omega) (by omega);have c2:=sE (xs:=r) (l:=n) (u:=r.length) (by omega) (by omega);rw [show ((0:Nat):Int)=0 from rfl,List.drop_zero] at c1;rw [List.take_length] at c2;rw [c1];simp only [Option.bind_some];rw [c2];rfl
  ·rw [show decide ((n:Int)<=(r.length:Int))=false by simpa using hn,rS,if_neg hn];exact⟨_,rfl⟩
 ·rw [h1,h2];exact⟨s,rfl⟩
theorem aXv:∀ (k:Nat) (m i n:Nat) (r:List Int),m<128 ^ (k+1)->k+i<=9->m * 2 ^ (7 * i)+n<18446744073709551616->(0<i->0<m)->pV i n (uv m++r)=some (n+m * 2 ^ (7 * i),r)
 | k,m,i,n,r,h,hi,hlt,h0=>by
  by_cases hm:m<128
  ·rw [aBr hm,List.singleton_append,pV];have h9:i<9\/(i=9/\(m:Int)<2):=by
    rcases Nat.lt_or_ge i 9 with q | q
    ·exact .inl q
    ·have:i=9:=by omega
     subst this;refine .inr ⟨rfl,?_⟩;rcases Nat.lt_or_ge m 2 with q2 | q2
     ·omega
     ·have:2 * 2 ^ (7 * 9)<=m * 2 ^ (7 * 9):=Nat.mul_le_mul_right _ q2;omega
   rw [if_pos h9,if_pos (by omega),if_pos (by rcases Nat.eq_zero_or_pos i with q | q; exact .inl q; have:=h0 q; exact .inr (by omega)),Int.toNat_natCast,Nat.mod_eq_of_lt hm]
  ·rw [aB7 hm,List.cons_append,pV]
   match k,h,hi with
   | 0,h,_=>exact absurd (by simpa using h) hm
   | k+1,h,hi =>
    rw [if_pos (.inl (by omega)),if_neg (by omega),Int.toNat_natCast,show (m % 128+128) % 128=m % 128 by omega];have hp:2 ^ (7 * (i+1))=128 * 2 ^ (7 * i):=by rw [show 7 * (i+1)=7+7 * i by omega,Nat.pow_add]
    have hdiv:m / 128 * (128 * 2 ^ (7 * i))+m % 128 * 2 ^ (7 * i)=m * 2 ^ (7 * i):=by rw [← Nat.mul_assoc, ← Nat.add_mul];congr 1;omega
    rw [aXv k (m / 128) (i+1) _ r (by rw [Nat.pow_succ] at h; exact Nat.div_lt_of_lt_mul (by rw [Nat.mul_comm]; exact h)) (by omega) (by rw [hp]; omega) (λ_=>by omega),hp];congr 2;omega
theorem aG0 {m:Nat} (h:m<18446744073709551616) (r:List Int) {most:Int} (hm:(m:Int)<=most):pU most (uv m++r)=some ((m:Int),r):=by unfold pU;rw [aXv 9 m 0 0 r (by omega) (by omega) (by simp; omega) (λq=>absurd q (by omega))];simp only [Nat.mul_zero,Nat.pow_zero,Nat.mul_one,Nat.zero_add];rw [if_pos hm]
theorem aMp {x:Int} (h:i64 x) (r:List Int):pI (uv (zz x)++r)=some (x,r):=by unfold pI;have:=wF h;rw [aG0 this r (by omega)];simp only [Int.toNat_natCast,bC7]
def bl (n:Nat):Nat:=if h:n=0 then 0 else bl (n / 2)+1
termination_by n
decreasing_by omega
theorem aEz:bl 0=0:=by rw [bl,dif_pos rfl]
theorem aK7 {n:Nat} (h:0<n):bl n=bl (n / 2)+1:=by rw [bl,dif_neg (by omega)]
theorem bCy (n:Nat):n<2 ^ bl n:=by
 induction n using Nat.strongRecOn with
 | _ n ih =>
  rcases Nat.eq_zero_or_pos n with rfl | h
  ·rw [aEz]; decide
  ·rw [aK7 h,Nat.pow_succ];have:=ih (n / 2) (by omega);omega
theorem aWx:∀ (k n:Nat),n<2 ^ k->bl n<=k
 | 0,n,h=>by
  have:n=0:=by simpa using h
  rw [this,aEz]; exact Nat.le_refl _
 | k+1,n,h=>by
  rcases Nat.eq_zero_or_pos n with rfl | hp
  ·rw [aEz]; omega
  ·rw [aK7 hp];have:=aWx k (n / 2) (by rw [Nat.pow_succ] at h; omega);omega
theorem aCc:∀ (k n:Nat),2 ^ k<=n->bl n=k+bl (n / 2 ^ k)
 | 0,n,_=>by simp
 | k+1,n,h=>by have hp:0<2 ^ k:=Nat.two_pow_pos k;rw [Nat.pow_succ] at h;rw [aK7 (by omega),aCc k (n / 2) (by omega),Nat.div_div_eq_div_mul,Nat.pow_succ,Nat.mul_comm (2 ^ k) 2];omega
def V (w:Nat):List Nat->Nat
 | []=>0
 | d::ds=>d+2 ^ w * V w ds
def Lt (w:Nat) (ds:List Nat):Prop:=∀ d∈ds,d<2 ^ w
theorem Lt.tail {w d:Nat} {ds:List Nat} (h:Lt w (d::ds)):d<2 ^ w/\Lt w ds:=⟨h d List.mem_cons_self,λx hx=>h x (List.mem_cons_of_mem _ hx)⟩
theorem aU0 {w:Nat}:∀ {ds:List Nat},Lt w ds->V w ds<2 ^ (ds.length * w)
 | [],_=>by simp [V]
 | d::ds,h=>by
  have h1:=h.tail.1;have h2:=aU0 h.tail.2;simp only [V,List.length_cons];rw [Nat.add_mul,Nat.one_mul,Nat.pow_add,Nat.mul_comm (2 ^ (ds.length * w))];have:2 ^ w * V w ds+2 ^ w<=2 ^ w * 2 ^ (ds.length * w):=by rw [← Nat.mul_succ]; exact Nat.mul_le_mul_left _ h2
  omega
theorem aRo {w:Nat}:∀ {ds:List Nat},Lt w ds->∀ i,V w ds / 2 ^ (i * w)=V w (ds.drop i)
 | ds,_,0=>by simp
 | [],_,i+1=>by simp [V]
 | d::ds,h,i+1=>by rw [List.drop_succ_cons, ← aRo h.tail.2 i,Nat.add_mul,Nat.one_mul,Nat.add_comm (i * w),Nat.pow_add, ← Nat.div_div_eq_div_mul];congr 1;simp only [V];rw [Nat.add_mul_div_left _ _ (Nat.two_pow_pos w),Nat.div_eq_of_lt h.tail.1,Nat.zero_add]
theorem aW3 {w:Nat} {ds:List Nat} (h:Lt w ds) {i d:Nat} (hd:ds[i]?=some d):V w ds / 2 ^ (i * w) % 2 ^ w=d:=by rw [aRo h,List.drop_eq_getElem_cons (List.getElem?_eq_some_iff.1 hd).1,(List.getElem?_eq_some_iff.1 hd).2,V,Nat.add_mul_mod_self_left];exact Nat.mod_eq_of_lt (h d (List.mem_of_getElem? hd))
def by_ (m v:Nat):List Nat:=(List.range m).map λj=>v / 2 ^ (8 * j) % 256
theorem tV (m v:Nat):(by_ m v).length=m:=by simp [by_]
theorem aHj {m v j:Nat} (h:j<m):(by_ m v)[j]?=some (v / 2 ^ (8 * j) % 256):=by unfold by_;rw [List.getElem?_map,List.getElem?_range h]; rfl
theorem bB0 (m v:Nat):Lt 8 (by_ m v):=by intro d hd;unfold by_ at hd;obtain⟨j,_,rfl⟩:=List.mem_map.1 hd;exact Nat.mod_lt _ (by decide)
theorem aTb {xs ys:List Nat} (hl:xs.length=ys.length) (h:∀ j:Nat,j<xs.length->xs[j]?=ys[j]?):xs=ys:=by
 apply List.ext_getElem? λj=>?_;rcases Nat.lt_or_ge j xs.length with hj | hj
 ·exact h j hj
 ·rw [List.getElem?_eq_none hj,List.getElem?_eq_none (by omega)]
theorem bA3:∀ (m v:Nat),v<2 ^ (8 * m)->V 8 (by_ m v)=v
 | 0,v,h=>by
  have:v=0:=by simpa using h
  subst this; rfl
 | m+1,v,h=>by
  have e:by_ (m+1) v=v % 256::by_ m (v / 256):=by
   refine aTb (by simp [tV]) λj hj=>?_;rw [tV] at hj;rw [aHj hj];cases j with
   | zero=>simp
   | succ j =>
    rw [List.getElem?_cons_succ,aHj (by omega),show 8 * (j+1)=8+8 * j by omega,Nat.pow_add,Nat.div_div_eq_div_mul]
  rw [e,V,bA3 m (v / 256) (by rw [show 8 * (m+1)=8+8 * m by omega,Nat.pow_add] at h; exact Nat.div_lt_of_lt_mul h)];exact Nat.mod_add_div v 256
def bt (v i:Nat):Nat:=v / 2 ^ i % 2
theorem aOw (v i:Nat):bt v i<2:=Nat.mod_lt _ (by decide)
theorem aGw (v i:Nat):v % 2 ^ (i+1)=v % 2 ^ i+bt v i * 2 ^ i:=by rw [Nat.pow_succ,Nat.mod_mul,bt,Nat.mul_comm]
theorem bCt {w:Nat} {ds:List Nat} (h:Lt w ds) {i k d:Nat} (hd:ds[i]?=some d) (hk:k<w):bt (V w ds) (i * w+k)=bt d k:=by
 unfold bt;have hm:=aW3 h hd;rw [Nat.pow_add, ← Nat.div_div_eq_div_mul]
 conv=>rhs; rw [← hm]
 obtain⟨x,hx⟩:∃ x,x=V w ds / 2 ^ (i * w):=⟨_,rfl⟩;rw [← hx];obtain⟨j,rfl⟩:∃ j,w=k+(j+1):=⟨w - k - 1,by omega⟩;rw [Nat.pow_add,Nat.mod_mul_right_div_self,Nat.pow_succ,Nat.mul_comm (2 ^ j) 2,Nat.mod_mul_right_mod]
theorem aIy (v i q w:Nat) (hw:0<w) (hq:q≠i / w):v % 2 ^ (i+1) / 2 ^ (q * w) % 2 ^ w=v % 2 ^ i / 2 ^ (q * w) % 2 ^ w:=by
 rw [aGw];rcases Nat.lt_or_ge (i / w) q with hlt | hge
 ·
  have h1:(i / w+1) * w<=q * w:=Nat.mul_le_mul_right _ hlt;have h2:i<(i / w+1) * w:=by have h:=Nat.div_add_mod i w; have h':=Nat.mod_lt i hw; rw [Nat.add_mul,Nat.one_mul,Nat.mul_comm (i / w)]; omega
  have h3:2 ^ (i+1)<=2 ^ (q * w):=Nat.pow_le_pow_right (by decide) (by omega);have h4:v % 2 ^ i<2 ^ i:=Nat.mod_lt _ (Nat.two_pow_pos i);have h5:=aOw v i;have h6:bt v i * 2 ^ i<=1 * 2 ^ i:=Nat.mul_le_mul_right _ (by omega);rw [Nat.pow_succ] at h3;rw [Nat.div_eq_of_lt (by omega),Nat.div_eq_of_lt (by omega)]
 ·
  have hlt:q<i / w:=by omega
  have h1:(q+1) * w<=i / w * w:=Nat.mul_le_mul_right _ hlt;have h2:i / w * w<=i:=Nat.div_mul_le_self i w;obtain⟨j,rfl⟩:∃ j,i=q * w+w+j:=⟨i - (q * w+w),by rw [Nat.add_mul] at h1; omega⟩;have e:bt v (q * w+w+j) * 2 ^ (q * w+w+j)=2 ^ (q * w) * (2 ^ w * (2 ^ j * bt v (q * w+w+j))):=by rw [Nat.pow_add,Nat.pow_add]; ac_rfl
  rw [e,Nat.add_mul_div_left _ _ (Nat.two_pow_pos _),Nat.add_mul_mod_self_left]
theorem aEy (v i w:Nat) (hw:0<w):v % 2 ^ (i+1) / 2 ^ (i / w * w) % 2 ^ w=v % 2 ^ i / 2 ^ (i / w * w) % 2 ^ w+bt v i * 2 ^ (i % w)/\v % 2 ^ i / 2 ^ (i / w * w) % 2 ^ w<2 ^ (i % w):=by
 obtain⟨q,hq⟩:∃ q,q=i / w * w:=⟨_,rfl⟩;obtain⟨k,hk⟩:∃ k,k=i % w:=⟨_,rfl⟩;have hi:i=q+k:=by rw [hq,hk,Nat.mul_comm]; exact (Nat.div_add_mod i w).symm
 have hkw:k<w:=by rw [hk]; exact Nat.mod_lt _ hw
 rw [← hq, ← hk,aGw,hi];have hlt:v % 2 ^ (q+k) / 2 ^ q<2 ^ k:=Nat.div_lt_of_lt_mul (by rw [← Nat.pow_add]; exact Nat.mod_lt _ (Nat.two_pow_pos _));have hkk:2 ^ (k+1)<=2 ^ w:=Nat.pow_le_pow_right (by decide) hkw;rw [Nat.pow_succ] at hkk;have hb:=aOw v (q+k);have hb2:bt v (q+k) * 2 ^ k<=1 * 2 ^ k:=Nat.mul_le_mul_right _ (by omega);have e:bt v (q+k) * 2 ^ (q+k)=2 ^ q * (bt v (q+k) * 2 ^ k):=by rw [Nat.pow_add, ← Nat.mul_assoc, ← Nat.mul_assoc,Nat.mul_comm (bt v (q+k))]
 rw [e,Nat.add_mul_div_left _ _ (Nat.two_pow_pos q),Nat.mod_eq_of_lt (show v % 2 ^ (q+k) / 2 ^ q+bt v (q+k) * 2 ^ k<2 ^ w by omega),Nat.mod_eq_of_lt (show v % 2 ^ (q+k) / 2 ^ q<2 ^ w by omega)];exact⟨rfl,hlt⟩
def b0 (l:List Int):List Int:=(l.map λx=>uv (zz x)).flatten
def aAq:Int->List Int->Int
 | a,[]=>a
 | _,x::l=>aAq x l
def bD:Int->List Int->List Int
 | _,[]=>[]
 | a,x::l=>uv (zz (IntKind.i64.wrap (x - a)))++bD x l
def bR:Nat->List Int->List Int
 | _,[]=>[]
 | k,[x]=>uv (zz x)++uv k
 | k,x::y::l=>if y=x then bR (k+1) (y::l) else uv (zz x)++uv k++bR 0 (y::l)
def mn:Int->List Int->Int
 | m,[]=>m
 | m,x::l=>mn (if x<m then x else m) l
def ds (lo:Int) (l:List Int):List Nat:=l.map λx=>(x - lo).toNat
def wdt (D:List Nat):Nat:=D.foldl (λw d=>if w<bl d then bl d else w) 0
def ofN (l:List Nat):List Int:=l.map λ(n:Nat)=>(n:Int)
def pk:List Int->List Int
 | []=>[]
 | x::l=>uv (zz (mn x l))++[(wdt (ds (mn x l) (x::l)):Int)]++ofN (by_ (((x::l).length * wdt (ds (mn x l) (x::l))+7) / 8) (V (wdt (ds (mn x l) (x::l))) (ds (mn x l) (x::l))))
def body:Nat->List Int->List Int
 | 0,l=>b0 l
 | 1,l=>bD 0 l
 | 2,l=>bR 0 l
 | _,l=>pk l
def asL (w:Nat) (l:List Int):List Int:=(w:Int)::(uv l.length++body w l)
def I64 (l:List Int):Prop:=∀ x∈l,i64 x
theorem I64.get {l:List Int} (h:I64 l) {i:Nat} {x:Int} (hx:l[i]?=some x):i64 x:=h x (List.mem_of_getElem? hx)
theorem aKn:∀ {l:List Int},I64 l->(b0 l).length<=10 * l.length
 | [],_=>by simp [b0]
 | x::l,h=>by have h1:=aL (wF (h x List.mem_cons_self));have h2:=aKn (l:=l) λy hy=>h y (List.mem_cons_of_mem _ hy);simp only [b0,List.map_cons,List.flatten_cons,List.length_append,List.length_cons] at h2 ⊢;omega
theorem aNq:∀ (l:List Int) (a:Int),(bD a l).length<=10 * l.length
 | [],_=>by simp [bD]
 | x::l,a=>by have h1:=aL (wF (aCi (x - a)));have h2:=aNq l x;simp only [bD,List.length_append,List.length_cons];omega
theorem aOk:∀ (l:List Int) (k:Nat),I64 l->k+l.length<18446744073709551616->(bR k l).length<=20 * l.length
 | [],_,_,_=>by simp [bR]
 | [x],k,h,hk=>by have h1:=aL (wF (h x List.mem_cons_self));have h2:=aL (n:=k) (by simp at hk; omega);simp only [bR,List.length_append,List.length_cons,List.length_nil];omega
 | x::y::l,k,h,hk=>by
  have h1:=aL (wF (h x List.mem_cons_self));simp only [List.length_cons] at hk;have h2:=aL (n:=k) (by omega);have h':I64 (y::l):=λz hz=>h z (List.mem_cons_of_mem _ hz);unfold bR;split
  ·have:=aOk (y::l) (k+1) h' (by simp only [List.length_cons]; omega);simp only [List.length_cons] at this ⊢;omega
  ·have:=aOk (y::l) 0 h' (by simp only [List.length_cons]; omega);simp only [List.length_append,List.length_cons] at this ⊢;omega
theorem aWi (l:List Int) (x:Int):b0 (l++[x])=b0 l++uv (zz x):=by simp [b0]
theorem aP3:∀ (l:List Int) (a x:Int),bD a (l++[x])=bD a l++uv (zz (IntKind.i64.wrap (x - aAq a l)))
 | [],a,x=>by simp [bD,aAq]
 | y::l,a,x=>by simp [bD,aAq,aP3 l y x]
theorem aFq:∀ (l:List Int) (a x:Int),aAq a (l++[x])=x
 | [],a,x=>rfl
 | y::l,a,x=>aFq l y x
theorem uB {l:List Int} {k:Nat} {x:Int} (h:l[k]?=some x):l.take (k+1)=l.take k++[x]:=by rw [List.take_add_one,h]; rfl
theorem I64.take {l:List Int} (h:I64 l) (k:Nat):I64 (l.take k):=λx hx=>h x (List.mem_of_mem_take hx)
section
variable {l pre:List Int} (hl:l.length<=4096) (hi:I64 l) (hp:pre.length<=20)
include hl hi hp
theorem bEn:loop (λs:List Int×Int=>lS l s.1 s.2) (pre,0)=some (pre++b0 l):=by
 have:=kD (b:=λs:List Int×Int=>lS l s.1 s.2) (λk=>(pre++b0 (l.take k),(k:Int))) (t:=pre++b0 l) l.length (λk hk=>by
  have hx:=List.getElem?_eq_getElem hk;have hlen:=aKn (hi.take k);rw [List.length_take] at hlen;show lS l (pre++b0 (l.take k)) (k:Int)=_;unfold lS;rw [if_pos (by simp only [decide_eq_true_eq]; omega),bG rfl hx];simp only [Option.bind_some];rw [zA (hi.get hx) _ (by simp only [List.length_append]; omega)];simp only [Option.bind_some,lt_];rw [w64 (by omega) (by omega),uB hx,aWi,List.append_assoc];rfl) (by
  show lS l (pre++b0 (l.take l.length)) (l.length:Int)=_;unfold lS;rw [if_neg (by simp),List.take_length])
 simpa [b0] using this
omit hi in
theorem bEa:loop (λs:List Int×Int×Int=>lL l s.1 s.2.1 s.2.2) (pre,0,0)=some (pre++bD 0 l):=by
 have:=kD (b:=λs:List Int×Int×Int=>lL l s.1 s.2.1 s.2.2) (λk=>(pre++bD 0 (l.take k),aAq 0 (l.take k),(k:Int))) (t:=pre++bD 0 l) l.length (λk hk=>by
  have hx:=List.getElem?_eq_getElem hk;have hlen:=aNq (l.take k) 0;rw [List.length_take] at hlen;show lL l (pre++bD 0 (l.take k)) (aAq 0 (l.take k)) (k:Int)=_;unfold lL;rw [if_pos (by simp only [decide_eq_true_eq]; omega),bG rfl hx];simp only [Option.bind_some,lt_];rw [zA (aCi _) _ (by simp only [List.length_append]; omega)];simp only [Option.bind_some];rw [w64 (n:=(k:Int)+1) (by omega) (by omega),uB hx,aP3,aFq,List.append_assoc];rfl) (by
  show lL l (pre++bD 0 (l.take l.length)) (aAq 0 (l.take l.length)) (l.length:Int)=_;unfold lL;rw [if_neg (by simp),List.take_length])
 simpa [bD,aAq] using this
end
theorem aFb (x:Int):∀ rest:List Int,∃ (m:Nat) (tl:List Int),rest=List.replicate m x++tl/\∀ y,tl[0]?=some y->y≠x
 | []=>⟨0,[],rfl,by simp⟩
 | y::rest=>by
  by_cases h:y=x
  ·obtain⟨m,tl,h1,h2⟩:=aFb x rest;exact⟨m+1,tl,by rw [h,h1]; rfl,h2⟩
  ·exact⟨0,y::rest,rfl,λz hz=>by cases hz; exact h⟩
theorem aN7 (x:Int) (tl:List Int) (h:∀ y,tl[0]?=some y->y≠x):∀ (m k:Nat),bR k (x::(List.replicate m x++tl))=uv (zz x)++uv (k+m)++bR 0 tl
 | 0,k=>by
  cases tl with
  | nil=>simp [bR]
  | cons y tl =>
   have:=h y rfl;simp only [List.replicate_zero,List.nil_append,bR,if_neg this,Nat.add_zero]
 | m+1,k=>by rw [List.replicate_succ,List.cons_append,bR,if_pos rfl,aN7 x tl h m (k+1),show k+1+m=k+(m+1) by omega]
section
variable {l pre:List Int} (hl:l.length<=4096) (hi:I64 l) (hp:pre.length<=20)
include hl hi hp
theorem bEu:loop (λs:List Int×Int=>nP l s.1 s.2) (pre,0)=some (pre++bR 0 l):=by
 obtain⟨t,ht,rfl⟩:=aCz (b:=λs:List Int×Int=>nP l s.1 s.2) (s:=(pre,0))
  (λs=>∃ i:Nat,s.2=i/\i<=l.length/\s.1.length<=20+20 * i/\s.1++bR 0 (l.drop i)=pre++bR 0 l)
  (λs=>((l.length:Int) - s.2).toNat) (λt=>t=pre++bR 0 l) ⟨0,rfl,by omega,by simpa using hp,by simp⟩ (by
   rintro⟨acc,q⟩ ⟨i,hq,hil,hacc,hinv⟩;simp only at hq hacc hinv;subst hq;show (∃ s',nP l acc (i:Int)=some (.inl s')/\_)\/∃ t,nP l acc (i:Int)=some (.inr t)/\_;unfold nP;by_cases hlt:i<l.length
   ·rw [if_pos (by simp only [decide_eq_true_eq]; omega)];have hx:=List.getElem?_eq_getElem hlt;obtain⟨x,hxe⟩:∃ x,x=l[i]:=⟨_,rfl⟩;rw [← hxe] at hx;have hd:l.drop i=x::l.drop (i+1):=by rw [List.drop_eq_getElem_cons hlt, ← hxe]
    obtain⟨m,tl,hm,htl⟩:=aFb x (l.drop (i+1));have hlen:l.length=i+1+m+tl.length:=by have:=congrArg List.length hm;simp only [List.length_drop,List.length_append,List.length_replicate] at this;omega
    have hget:∀ k,k<m->l[i+1+k]?=some x:=by
     intro k hk;have:(l.drop (i+1))[k]?=some x:=by rw [hm,List.getElem?_append_left (by simpa using hk)]; simp [hk]
     rwa [List.getElem?_drop] at this
    have hdr:l.drop (i+1+m)=tl:=by rw [← List.drop_drop,hm];exact List.drop_left' (by simp)
    
    have hin:=kD (b:=λs:Int=>nS l (i:Int) s) (λk=>((k+1:Nat):Int)) (t:=((m+1:Nat):Int)) m (λk hk=>by
     show nS l (i:Int) ((k+1:Nat):Int)=_;unfold nS;rw [lt_,w64 (by omega) (by omega),if_pos (by simp only [decide_eq_true_eq]; omega),bG (n:=i+1+k) (by omega) (hget k hk),bG rfl hx];simp only [Option.bind_some];unfold pO;rw [if_pos (by simp),lt_,w64 (by omega) (by omega)];rfl) (by
     show nS l (i:Int) ((m+1:Nat):Int)=_;unfold nS;rw [lt_,w64 (by omega) (by omega)];by_cases htz:tl.length=0
     ·rw [if_neg (by simp only [decide_eq_true_eq]; omega)];unfold pO;rw [if_neg (by simp)]
     ·obtain⟨y,hy⟩:∃ y,tl[0]?=some y:=⟨_,List.getElem?_eq_getElem (by omega)⟩;have hy':l[i+1+m]?=some y:=by rw [← hdr,List.getElem?_drop] at hy; exact hy
      rw [if_pos (by simp only [decide_eq_true_eq]; omega),bG (n:=i+1+m) (by omega) hy',bG rfl hx];simp only [Option.bind_some];unfold pO;rw [if_neg (by simpa using htl y hy)])
    rw [show (1:Int)=((0+1:Nat):Int) from rfl,hin];simp only [Option.bind_some];unfold uL xI;have hz:=aL (wF (hi.get hx));have hum:=aL (n:=m) (by omega);rw [bG rfl hx];simp only [Option.bind_some];rw [zA (hi.get hx) _ (by omega)];simp only [Option.bind_some,lt_];rw [w64 (n:=((m+1:Nat):Int) - 1) (by omega) (by omega),show ((m+1:Nat):Int) - 1=(m:Int) by omega,nO (by omega) (by omega),sU m _ (by omega) (by simp only [List.length_append]; omega)];simp only [Option.bind_some];rw [w64 (by omega) (by omega)];refine .inl ⟨_,rfl,⟨i+1+m,?_,by omega,?_,?_⟩,?_⟩
    ·simp only; omega
    ·simp only [List.length_append]; omega
    ·rw [hdr, ← hinv,hd,hm,aN7 x tl htl m 0];simp
    ·simp only; omega
   ·rw [if_neg (by simp only [decide_eq_true_eq]; omega)];refine .inr ⟨_,rfl,?_⟩;rw [← hinv,show i=l.length by omega,List.drop_length];simp [bR])
 exact ht
end
theorem aFr {k m:Nat} (h1:2 ^ k<=m) (h2:m<2 ^ (k+1)):bl m=k+1:=by
 have e:m / 2 ^ k=1:=by rw [Nat.pow_succ] at h2;have:=(Nat.le_div_iff_mul_le (Nat.two_pow_pos k)).2 (show 1 * 2 ^ k<=m by omega);have:=(Nat.div_lt_iff_lt_mul (Nat.two_pow_pos k)).2 (show m<2 * 2 ^ k by omega);omega
 rw [aCc k m h1,e,aK7 (by decide),show 1 / 2=0 from rfl,aEz]
def aJw (m:Nat):Nat:=if m<1 then 0 else if m<2 then 1 else if m<4 then 2 else if m<8 then 3 else if m<16 then 4 else if m<32 then 5 else if m<64 then 6 else if m<128 then 7 else 8
theorem aSx {m:Nat} (h:m<256):bl m=aJw m:=by
 unfold aJw
 repeat' split
 ·rw [show m=0 by omega,aEz]
 ·exact aFr (k:=0) (by omega) (by omega)
 ·exact aFr (k:=1) (by omega) (by omega)
 ·exact aFr (k:=2) (by omega) (by omega)
 ·exact aFr (k:=3) (by omega) (by omega)
 ·exact aFr (k:=4) (by omega) (by omega)
 ·exact aFr (k:=5) (by omega) (by omega)
 ·exact aFr (k:=6) (by omega) (by omega)
 ·exact aFr (k:=7) (by omega) (by omega)
set_option maxRecDepth 100000 in
theorem aXz {m:Nat} (h:m<256) (a:Int) (ha:0<=a) (ha':a<=64):qQ (m:Int) a=some (a+(bl m:Int)):=by
 unfold qQ;rw [lt_,u8w (by omega) (by omega),aN2];have key:∀ tb:List UInt8,(∀ i:Fin 256,(tb[i.val]?).map (λb:UInt8=>b.toNat)=some (aJw i.val))->((tb[m]?).bind λz=>(ltt (IntKind.i64.wrap (z.toNat:Int)) λC=>(ltt (IntKind.i64.wrap (a+C)) λG=>(some G))))=some (a+(bl m:Int)):=by
  intro tb ht;have:=ht ⟨m,h⟩;simp only [Option.map_eq_some_iff] at this;obtain⟨b,hb,hs⟩:=this;rw [hb];have:aJw m<=8:=by unfold aJw; (repeat' split) <;> omega
  simp only [Option.bind_some,lt_];rw [hs,w64 (n:=((aJw m:Nat):Int)) (by omega) (by omega),w64 (by omega) (by omega),aSx h]
 exact key _ (by decide +kernel)
theorem sh {n k:Nat} (hk:k<=64):pH .u64 (n:Int) (k:Int)=((n / 2 ^ k:Nat):Int):=lZ (k:=.u64) n k hk
theorem aZo {n:Nat} (h:n<18446744073709551616):xY (n:Int)=some (bl n:Int):=by
 have j2:∀ (m a:Nat),m<65536->a<=56->qK (m:Int) (a:Int)=some ((a:Int)+(bl m:Int)):=by
  intro m a hm ha;unfold qK;by_cases hc:256<=m
  ·rw [if_pos (by simp only [decide_eq_true_eq]; omega),lt_,lt_];have e:=sh (n:=m) (k:=8) (by omega);rw [show ((8:Nat):Int)=8 from rfl] at e;rw [e,w64 (by omega) (by omega),aXz (by omega) _ (by omega) (by omega),aCc 8 m (by omega)];congr 1;omega
  ·rw [if_neg (by simp only [decide_eq_true_eq]; omega),aXz (by omega) _ (by omega) (by omega)]
 have j1:∀ (m a:Nat),m<4294967296->a<=32->qO (m:Int) (a:Int)=some ((a:Int)+(bl m:Int)):=by
  intro m a hm ha;unfold qO;by_cases hc:65536<=m
  ·rw [if_pos (by simp only [decide_eq_true_eq]; omega),lt_,lt_];have e:=sh (n:=m) (k:=16) (by omega);rw [show ((16:Nat):Int)=16 from rfl] at e;rw [e,w64 (by omega) (by omega),show (a:Int)+16=((a+16:Nat):Int) by omega,j2 _ _ (by omega) (by omega),aCc 16 m (by omega)];congr 1;omega
  ·rw [if_neg (by simp only [decide_eq_true_eq]; omega),j2 _ _ (by omega) (by omega)]
 unfold xY;by_cases hc:4294967296<=n
 ·rw [if_pos (by simp only [decide_eq_true_eq]; omega),lt_];have e:=sh (n:=n) (k:=32) (by omega);rw [show ((32:Nat):Int)=32 from rfl] at e;rw [e,show (32:Int)=((32:Nat):Int) from rfl,j1 _ _ (by omega) (by omega),aCc 32 n (by omega)];congr 1
 ·rw [if_neg (by simp only [decide_eq_true_eq]; omega),show (0:Int)=((0:Nat):Int) from rfl,j1 _ _ (by omega) (by omega)];simp
theorem aPf:∀ (l:List Int) (m x:Int),mn m (l++[x])=if x<mn m l then x else mn m l
 | [],m,x=>rfl
 | y::l,m,x=>aPf l _ x
theorem aSv:∀ (l:List Int) (m:Int),mn m l<=m/\∀ x∈l,mn m l<=x
 | [],m=>⟨Int.le_refl _,λx h=>by cases h⟩
 | y::l,m=>by
  obtain⟨h1,h2⟩:=aSv l (if y<m then y else m);have h3:(if y<m then y else m)<=m/\(if y<m then y else m)<=y:=by split <;> omega
  refine⟨Int.le_trans h1 h3.1,λx hx=>?_⟩;rcases List.mem_cons.1 hx with rfl | hx
  ·exact Int.le_trans h1 h3.2
  ·exact h2 x hx
theorem aTk:∀ (l:List Int) (m:Int),mn m l=m\/mn m l∈l
 | [],m=>.inl rfl
 | y::l,m=>by
  rcases aTk l (if y<m then y else m) with h | h
  ·simp only [mn];rw [h];split
   ·exact .inr List.mem_cons_self
   ·exact .inl rfl
  ·exact .inr (List.mem_cons_of_mem _ h)
theorem aLe {x:Int} {l:List Int} (h:I64 (x::l)):i64 (mn x l):=by
 rcases aTk l x with e | e
 ·rw [e]; exact h x List.mem_cons_self
 ·exact h _ (List.mem_cons_of_mem _ e)
theorem aYh {x lo:Int} (hx:i64 x) (hlo:i64 lo) (h:lo<=x):IntKind.u64.wrap (IntKind.i64.wrap (x - lo))=(((x - lo).toNat:Nat):Int)/\(x - lo).toNat<18446744073709551616:=by unfold i64 at hx hlo;refine⟨?_,by omega⟩;rw [IntKind.wrap_u64,IntWalk.i64_left];unfold wrap64;omega
theorem aG1 (D:List Nat) (d:Nat):wdt (D++[d])=if wdt D<bl d then bl d else wdt D:=by unfold wdt; rw [List.foldl_append]; rfl
theorem aSd:∀ (k:Nat) (D:List Nat),D.length=k->∀ d∈D,bl d<=wdt D
 | 0,D,hk,d,hd=>by rw [List.eq_nil_of_length_eq_zero hk] at hd; cases hd
 | k+1,D,hk,d,hd=>by
  obtain⟨c,x,rfl⟩:∃ c x,D=c++[x]:=⟨D.dropLast,D.getLast (by intro e; rw [e] at hk; cases hk),(List.dropLast_concat_getLast _).symm⟩;rw [aG1];rcases List.mem_append.1 hd with h | h
  ·have:=aSd k c (by simpa using hk) d h;split <;> omega
  ·rw [List.mem_singleton.1 h];split <;> omega
theorem aTg (b:Nat):∀ (k:Nat) (D:List Nat),D.length=k->(∀ d∈D,bl d<=b)->wdt D<=b
 | 0,D,hk,_=>by rw [List.eq_nil_of_length_eq_zero hk]; simp [wdt]
 | k+1,D,hk,h=>by obtain⟨c,x,rfl⟩:∃ c x,D=c++[x]:=⟨D.dropLast,D.getLast (by intro e; rw [e] at hk; cases hk),(List.dropLast_concat_getLast _).symm⟩;rw [aG1];have h1:=aTg b k c (by simpa using hk) λd hd=>h d (List.mem_append.2 (.inl hd));have h2:=h x (List.mem_append.2 (.inr (List.mem_singleton.2 rfl)));split <;> omega
theorem aS6 (D:List Nat):Lt (wdt D) D:=λd hd=>Nat.lt_of_lt_of_le (bCy d) (Nat.pow_le_pow_right (by decide) (aSd _ D rfl d hd))
theorem aNk {lo x:Int} {l:List Int} {i:Nat} (h:l[i]?=some x):(ds lo l)[i]?=some (x - lo).toNat:=by simp [ds,h]
theorem vR (lo:Int) (l:List Int):(ds lo l).length=l.length:=by simp [ds]
theorem aV2 {m v at':Nat} (h:at' / 8<m):(ofN (by_ m (v % 2 ^ at'))).set (at' / 8) ((v % 2 ^ at' / 2 ^ (8 * (at' / 8)) % 256+bt v at' * 2 ^ (at' % 8):Nat):Int)=ofN (by_ m (v % 2 ^ (at'+1))):=by
 unfold ofN;rw [← List.map_set];congr 1;refine aTb (by simp [tV]) λj hj=>?_;rw [List.length_set,tV] at hj;rw [aHj hj];by_cases e:at' / 8=j
 ·subst e;have:=(aEy v at' 8 (by decide)).1;rw [Nat.mul_comm (at' / 8) 8,show 2 ^ 8=256 from rfl] at this;rw [List.getElem?_set_self (by rw [tV]; exact hj),this]
 ·have:=aIy v at' j 8 (by decide) (Ne.symm e);rw [Nat.mul_comm j 8,show 2 ^ 8=256 from rfl] at this;rw [List.getElem?_set_ne e,aHj hj,this]
theorem aVs {D:List Nat} {j d:Nat} (h:D[j]?=some d):(ofN D)[j]?=some (d:Int):=by simp [ofN,h]
theorem aD2 (D:List Nat):(ofN D).length=D.length:=by simp [ofN]
section
variable {l:List Int} {lo:Int} {w:Nat} (hl:l.length<=4096) (hi:I64 l) (hlo:i64 lo) (hle:∀ x∈l,lo<=x) (hw:w<=64) (hL:Lt w (ds lo l))
include hl hi hlo hle hw hL
omit hl in
theorem aZi {i:Nat} {x:Int} (hx:l[i]?=some x) {k:Nat} (hk:k<w) :
  pH .u64 (IntKind.u64.wrap (IntKind.i64.wrap (x - lo))) (k:Int)=(((x - lo).toNat / 2 ^ k:Nat):Int)/\bt (V w (ds lo l)) (i * w+k)=(x - lo).toNat / 2 ^ k % 2/\(x - lo).toNat / 2 ^ k<18446744073709551616:=by
 obtain⟨e,e'⟩:=aYh (hi.get hx) hlo (hle x (List.mem_of_getElem? hx));rw [e];exact⟨sh (by omega),bCt hL (aNk hx) hk,Nat.lt_of_le_of_lt (Nat.div_le_self _ _) e'⟩
omit hi hlo hle hL in
theorem bCz {i k:Nat} (hil:i<l.length) (hk:k<w):i * w+k<l.length * w/\l.length * w<=262144/\(i * w+k) / 8<(l.length * w+7) / 8:=by have h1:(i+1) * w<=l.length * w:=Nat.mul_le_mul_right _ hil;have h2:l.length * w<=4096 * 64:=Nat.mul_le_mul hl hw;rw [Nat.add_mul] at h1;refine⟨by omega,by omega,by omega⟩
theorem aRs {i:Nat} {x:Int} (hx:l[i]?=some x) :
  loop (λs:Int×List Int×Int=>iU lo (w:Int) x s.1 s.2.1 s.2.2) (((i * w:Nat):Int),ofN (by_ ((l.length * w+7) / 8) (V w (ds lo l) % 2 ^ (i * w))),0)
   = some ((((i+1) * w:Nat):Int),ofN (by_ ((l.length * w+7) / 8) (V w (ds lo l) % 2 ^ ((i+1) * w)))):=by
 have hil:=(List.getElem?_eq_some_iff.1 hx).1;have:=kD (b:=λs:Int×List Int×Int=>iU lo (w:Int) x s.1 s.2.1 s.2.2) (λk=>(((i * w+k:Nat):Int),ofN (by_ ((l.length * w+7) / 8) (V w (ds lo l) % 2 ^ (i * w+k))),(k:Int))) (t:=((((i+1) * w:Nat):Int),ofN (by_ ((l.length * w+7) / 8) (V w (ds lo l) % 2 ^ ((i+1) * w))))) w (λk hk=>by
  obtain⟨h1,h2,h3⟩:=bCz hl hw hil hk;obtain⟨e1,e2,e3⟩:=aZi hi hlo hle hw hL hx hk;show iU lo (w:Int) x ((i * w+k:Nat):Int) (ofN (by_ ((l.length * w+7) / 8) (V w (ds lo l) % 2 ^ (i * w+k)))) (k:Int)=_;have hstep:=aV2 (v:=V w (ds lo l)) h3;have hcur:V w (ds lo l) % 2 ^ (i * w+k) / 2 ^ (8 * ((i * w+k) / 8)) % 256<2 ^ ((i * w+k) % 8):=by
   have:=(aEy (V w (ds lo l)) (i * w+k) 8 (by decide)).2
   rwa [Nat.mul_comm ((i * w+k) / 8) 8] at this
  rw [show i * w+(k+1)=i * w+k+1 by omega];generalize i * w+k=a at h1 h3 e2 hstep hcur ⊢;have hget:=aVs (aHj (v:=V w (ds lo l) % 2 ^ a) h3);unfold iU;rw [if_pos (by simp only [decide_eq_true_eq]; omega),lt_,show ((a:Nat):Int).tdiv 8=((a / 8:Nat):Int) from rfl,w64 (n:=((a / 8:Nat):Int)) (by omega) (by omega),bG rfl hget];simp only [Option.bind_some,lt_];rw [bM (by omega),e1,show ((a:Nat):Int).tmod 8=((a % 8:Nat):Int) from rfl,bM (by omega)];have hand:aAv .u64 (((x - lo).toNat / 2 ^ k:Nat):Int) 1=((bt (V w (ds lo l)) a:Nat):Int):=by have:=aGx (a:=(x - lo).toNat / 2 ^ k) (b:=1) e3 (by omega);rw [show ((1:Nat):Int)=1 from rfl] at this;rw [this,aSp,e2]
  have hb:=aOw (V w (ds lo l)) a;have hp8:2 ^ (a % 8)<=2 ^ 7:=Nat.pow_le_pow_right (by decide) (by omega);have hbp:bt (V w (ds lo l)) a * 2 ^ (a % 8)<=1 * 2 ^ (a % 8):=Nat.mul_le_mul_right _ (by omega);have hm:bt (V w (ds lo l)) a * 2 ^ (a % 8) % 256=bt (V w (ds lo l)) a * 2 ^ (a % 8):=Nat.mod_eq_of_lt (by omega);rw [hand,u8w (by omega) (by omega),aWe _ _ (by omega),hm,aTa (by omega) (by omega),aBa hcur,w64 (by omega) (by omega),w64 (by omega) (by omega),Int.toNat_natCast,hstep];rfl) (by
  show iU lo (w:Int) x ((i * w+w:Nat):Int) (ofN (by_ ((l.length * w+7) / 8) (V w (ds lo l) % 2 ^ (i * w+w)))) (w:Int)=_;unfold iU;rw [if_neg (by simp),show i * w+w=(i+1) * w by rw [Nat.add_mul,Nat.one_mul]])
 simpa using this
theorem aUo:loop (λs:Int×List Int×Int=>iV l lo (w:Int) s.1 s.2.1 s.2.2) (0,List.replicate ((l.length * w+7) / 8) 0,0)=some (ofN (by_ ((l.length * w+7) / 8) (V w (ds lo l)))):=by
 have:=kD (b:=λs:Int×List Int×Int=>iV l lo (w:Int) s.1 s.2.1 s.2.2) (λi=>(((i * w:Nat):Int),ofN (by_ ((l.length * w+7) / 8) (V w (ds lo l) % 2 ^ (i * w))),(i:Int))) (t:=ofN (by_ ((l.length * w+7) / 8) (V w (ds lo l)))) l.length (λi hil=>by
  have hx:=List.getElem?_eq_getElem hil;show iV l lo (w:Int) ((i * w:Nat):Int) (ofN (by_ ((l.length * w+7) / 8) (V w (ds lo l) % 2 ^ (i * w)))) (i:Int)=_;unfold iV;rw [if_pos (by simp only [decide_eq_true_eq]; omega),bG rfl hx];simp only [Option.bind_some];rw [aRs hl hi hlo hle hw hL hx];simp only [Option.bind_some];unfold sL uN;rw [lt_,w64 (by omega) (by omega)];rfl) (by
  show iV l lo (w:Int) ((l.length * w:Nat):Int) (ofN (by_ ((l.length * w+7) / 8) (V w (ds lo l) % 2 ^ (l.length * w)))) (l.length:Int)=_;unfold iV;have hv:=aU0 hL;rw [vR] at hv;rw [if_neg (by simp),Nat.mod_eq_of_lt hv])
 have e0:ofN (by_ ((l.length * w+7) / 8) (V w (ds lo l) % 2 ^ (0 * w)))=List.replicate ((l.length * w+7) / 8) 0:=by rw [Nat.zero_mul,Nat.pow_zero,Nat.mod_one];unfold ofN by_;rw [List.map_map,List.eq_replicate_iff];refine⟨by simp,λb hb=>?_⟩;obtain⟨j,_,rfl⟩:=List.mem_map.1 hb;simp
 rw [e0] at this;simpa using this
end
section
variable {l:List Int} {lo:Int} {w:Nat} (hl:l.length<=4096) (hi:I64 l) (hlo:i64 lo) (hle:∀ x∈l,lo<=x) (hw:w<=64) (hL:Lt w (ds lo l)) {pre:List Int} (hp:pre.length<=100)
include hl hi hlo hle hw hL hp
end
theorem aUs {x:Int} {l:List Int} (hl:(x::l).length<=4096):iS (x::l)=some (mn x l):=by
 simp only [List.length_cons] at hl;unfold iS;rw [if_neg (by simp only [decide_eq_true_eq,List.length_cons]; omega),show at_ (x::l) 0=some x from rfl];simp only [Option.bind_some];have:=kD (b:=λs:Int×Int=>dB (x::l) s.1 s.2) (λk=>(mn x (l.take k),((k+1:Nat):Int))) (t:=mn x l) l.length (λk hk=>by
  have hx:=List.getElem?_eq_getElem hk;show dB (x::l) (mn x (l.take k)) ((k+1:Nat):Int)=_;unfold dB;rw [if_pos (by simp only [decide_eq_true_eq,List.length_cons]; omega),bG rfl (by rw [List.getElem?_cons_succ]; exact hx)];simp only [Option.bind_some,lt_];rw [w64 (by omega) (by omega),uB hx,aPf];rfl) (by
  show dB (x::l) (mn x (l.take l.length)) ((l.length+1:Nat):Int)=_;unfold dB;rw [if_neg (by simp),List.take_length])
 rw [show ((x,1):Int×Int)=(λk=>(mn x (l.take k),((k+1:Nat):Int))) 0 from rfl,this];rfl
section
variable {l:List Int} {lo:Int} (hl:l.length<=4096) (hi:I64 l) (hlo:i64 lo) (hle:∀ x∈l,lo<=x)
include hl hi hlo hle
omit hl in
theorem bBi:∀ d∈ds lo l,bl d<=64:=by intro d hd;obtain⟨x,hx,rfl⟩:=List.mem_map.1 hd;exact aWx 64 _ (aYh (hi x hx) hlo (hle x hx)).2
omit hl in
theorem aKr (k:Nat):wdt ((ds lo l).take k)<=64:=aTg 64 _ _ rfl λd hd=>bBi hi hlo hle d (List.mem_of_mem_take hd)
theorem aU9:loop (λs:Int×Int=>iT l lo s.1 s.2) (0,0)=some (wdt (ds lo l):Int):=by
 have:=kD (b:=λs:Int×Int=>iT l lo s.1 s.2) (λk=>((wdt ((ds lo l).take k):Int),(k:Int))) (t:=(wdt (ds lo l):Int)) l.length (λk hk=>by
  have hx:=List.getElem?_eq_getElem hk;obtain⟨e,e'⟩:=aYh (hi.get hx) hlo (hle _ (List.mem_of_getElem? hx));show iT l lo (wdt ((ds lo l).take k):Int) (k:Int)=_;unfold iT;rw [if_pos (by simp only [decide_eq_true_eq]; omega),bG rfl hx];simp only [Option.bind_some,lt_];rw [e,aZo e'];simp only [Option.bind_some];rw [w64 (by omega) (by omega),List.take_add_one (i:=k),aNk hx];show some (Sum.inl _)=some (Sum.inl (((wdt ((ds lo l).take k++[(l[k] - lo).toNat]):Nat):Int),((k+1:Nat):Int)));rw [aG1];congr 3;split <;> split <;> omega) (by
  show iT l lo (wdt ((ds lo l).take l.length):Int) (l.length:Int)=_;unfold iT;rw [if_neg (by simp),List.take_of_length_le (by rw [vR]; exact Nat.le_refl _)])
 simpa [wdt] using this
end
theorem aKg {x:Int} {l:List Int}:∀ y∈x::l,mn x l<=y:=λy hy=>by
 rcases List.mem_cons.1 hy with rfl | h
 ·exact (aSv l y).1
 ·exact (aSv l x).2 y h
theorem bEj {l pre:List Int} (hl:l.length<=4096) (hi:I64 l) (hp:pre.length<=20):tW pre l=some (pre++pk l):=by
 cases l with
 | nil=>simp [tW,pk]
 | cons x l =>
  have hlo:=aLe hi;have hle:=aKg (x:=x) (l:=l);unfold tW;rw [if_neg (by simp; omega),aUs hl];simp only [Option.bind_some];rw [aU9 hl hi hlo hle];simp only [Option.bind_some];have hw:wdt (ds (mn x l) (x::l))<=64:=by
   have:=aKr hi hlo hle (x::l).length
   rwa [List.take_of_length_le (by rw [vR]; exact Nat.le_refl _)] at this
  have hL:=aS6 (ds (mn x l) (x::l));have hz:=aL (wF hlo);simp only [pk];generalize wdt (ds (mn x l) (x::l))=w at hw hL ⊢;have h2:(x::l).length * w<=4096 * 64:=Nat.mul_le_mul hl hw;unfold rT uK;rw [zA hlo _ (by omega)];simp only [Option.bind_some,lt_];rw [u8w (n:=(w:Int)) (by omega) (by omega),bM (by simp only [List.length_append,List.length_singleton]; omega), ← Int.natCast_mul,w64 (n:=(((x::l).length * w:Nat):Int)) (by omega) (by omega),w64 (n:=(((x::l).length * w:Nat):Int)+7) (by omega) (by omega),
   show ((((x::l).length * w:Nat):Int)+7).tdiv 8=((((x::l).length * w+7) / 8:Nat):Int) from rfl,w64 (by omega) (by omega),bM (by omega),Int.toNat_natCast,aUo hl hi hlo hle hw hL]
  simp only [Option.bind_some];unfold rW uT;rw [bM (by simp only [List.length_append,List.length_singleton,aD2,tV]; omega)];simp
theorem aYj {w:Nat} {l:List Int} (hw:w<4) (hl:l.length<=4096) (hi:I64 l):vX (w:Int) l=some (asL w l):=by
 have hu:=aL (n:=l.length) (by omega);unfold vX;rw [lt_,nO (by omega) (by omega),sU _ _ (by omega) (by simp; omega)];simp only [Option.bind_some];have hp:([(w:Int)]++uv l.length).length<=20:=by simp; omega
 unfold asL
 match w,hw with
 | 0,_ =>
  rw [if_pos (by rfl),bEn hl hi hp];simp [uY,xB,iZ,body]
 | 1,_ =>
  rw [if_neg (by decide),if_pos (by rfl),bEa hl hp];simp [uH,xL,iZ,body]
 | 2,_ =>
  rw [if_neg (by decide),if_neg (by decide),if_pos (by rfl),bEu hl hi hp];simp [vA,xN,iZ,body]
 | 3,_ =>
  rw [if_neg (by decide),if_neg (by decide),if_neg (by decide),if_pos (by rfl),bEj hl hi hp];simp [iZ,body]
def iW (a b:List Int):List Int:=if b.length<a.length then b else a
def fW (l:List Int):List Int:=iW (iW (iW (asL 0 l) (asL 1 l)) (asL 2 l)) (asL 3 l)
theorem aBo {l:List Int} (hl:l.length<=4096) (hi:I64 l):nF l=some (fW l):=by
 have hA:∀ w:Nat,w<4->vX (w:Int) l=some (asL w l):=λw hw=>aYj hw hl hi;unfold fW;unfold nF;obtain⟨p,hp⟩:∃ p:Nat->List Int,∀ w,p w=asL w l:=⟨_,λ_=>rfl⟩;have step:∀ (b:List Int) (w:Nat),1<=w->w<4->fV l b (w:Int)=some (.inl (iW b (p w),((w+1:Nat):Int))):=by
  intro b w h1 h4;unfold fV rI iW;rw [if_pos (by simp only [decide_eq_true_eq]; omega),hA w h4,hp];simp only [Option.bind_some,lt_];rw [u8w (by omega) (by omega)];by_cases h:(asL w l).length<b.length
  ·rw [if_pos (by simp only [decide_eq_true_eq]; omega),if_pos h]; rfl
  ·rw [if_neg (by simp only [decide_eq_true_eq]; omega),if_neg h]; rfl
 have h0:=hA 0 (by decide);rw [show ((0:Nat):Int)=0 from rfl] at h0;rw [h0, ← hp 0, ← hp 1, ← hp 2, ← hp 3];clear hA h0 hp;simp only [Option.bind_some];have h4:∀ b,fV l b ((4:Nat):Int)=some (.inr b):=by intro b;unfold fV;rw [if_neg (by decide)]
 have:=((cH (b:=λs:List Int×Int=>fV l s.1 s.2) (s:=(p 0,((1:Nat):Int))) (step (p 0) 1 (by decide) (by decide))).trans
  ((cH (b:=λs:List Int×Int=>fV l s.1 s.2) (s:=(iW (p 0) (p 1),((2:Nat):Int))) (step _ 2 (by decide) (by decide))).trans
  ((cH (b:=λs:List Int×Int=>fV l s.1 s.2) (s:=(iW (iW (p 0) (p 1)) (p 2),((3:Nat):Int))) (step _ 3 (by decide) (by decide))).trans (bF (b:=λs:List Int×Int=>fV l s.1 s.2) (s:=(iW (iW (iW (p 0) (p 1)) (p 2)) (p 3),((4:Nat):Int))) (h4 _)))))
 rw [show (1:Int)=((1:Nat):Int) from rfl,this];rfl
end Go.Proofs.YtdkpjpoajlmmfaaGreatDoor.P
