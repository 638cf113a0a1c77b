/- Texts of the claim, joined: what it uses of Mcr, Drf, Mrf, Drg, Mrg, Dtx, Mtx, Va, Dst0. -/
import Derived.Test.YtdkpjpoajlmmfaaGreatDoorZc
import Derived.Test.YtdkpjpoajlmmfaaGreatDoorProg
import Derived.Shelf.SlIter.Sorted
import Derived.Shelf.Sort.Plain
import Derived.Shelf.Slices.In.SortNone
import Derived.Shelf.Slices.CompactS
import Derived.KernelRfl
namespace Go.Proofs.YtdkpjpoajlmmfaaGreatDoor.M
open Go Go.RowKit Go.Proofs.YtdkpjpoajlmmfaaGreatDoor.E
set_option linter.unusedVariables false
set_option maxRecDepth 100000
set_option maxHeartbeats 4000000
set_option linter.unusedSimpArgs false
section
variable {r:World} {L:List HP} {w:World} {Z:Nat->Prop} {wz:World}
theorem aE {a0 a1 g0 y} (G:aI a0 a1=some y) (X:SH r (obj140 Z wz g0 a0::L) w) (qz:Nat) (hZ:L[qz]?=some (zone Z wz)) :
  RetS Tryz.prog 49 #[.pointer (some ⟨g0,0,none⟩),.bool a1] w aDd y (λy v w'=>v=.tuple #[]/\SH r (obj140 Z wz g0 y::L) w') (λy w'=>SH r (obj140 Z wz g0 y::L) w'):=by
 refine vI Tryz.func49 rfl Tryz.ntmps49 [(0,_),(1,_)] rfl (by simp) ?_;intro U J Qf hQ hQn hQp;unfold aI at G;obtain⟨I,N,S,X⟩:=aB X;obtain⟨z,X⟩:=(X.pk 1).unpure;refine nz 2 J rfl λU J=>aX J G rfl (λC G=>?_) λC G=>?_
 ·refine aD (x_v (v:=.agg #[]) J (jL (ps:=#[]) rfl (mB J rfl) (λw=>by kernel_rfl)) rfl λU J=>?_);refine x_v J (aPl aZ5 rfl rfl (J.ev rfl)) rfl λU J=>aSz J ?_ rfl;replace X:=aH (x:=a0) ((SH.pure_ z X).pk 1);cases G;exact hQp _ rfl _ _ J.defers X
 replace X:=aH (x:=a0) ((SH.pure_ z X).pk 1);cases G;refine wp_skip (hQn _ rfl _ _ ?_);exact aIg Tryz.results49 J ⟨rfl,X⟩
theorem rL {a0 g0 y} (G:fS a0=some y) (X:SH r (obj140 Z wz g0 a0::L) w) (qz:Nat) (hZ:L[qz]?=some (zone Z wz)) :
  RetS Tryz.prog 74 #[.pointer (some ⟨g0,0,none⟩)] w aDd y (λy v w'=>v=.int .u8 y.1/\SH r (obj140 Z wz g0 y.2::L) w') (λy w'=>SH r (obj140 Z wz g0 y::L) w'):=by
 refine vI Tryz.func74 rfl Tryz.ntmps74 [(0,_)] rfl (by simp) ?_;intro U J Qf hQ hQn hQp;unfold fS at G;obtain⟨b4,b5,b6,X⟩:=aB X;obtain⟨I,X⟩:=(X.pk 1).unpure;refine nz 1 J rfl λU J=>ws λb7 S=>xk 3 J rfl λU J=>aO rU J (λU J=>?_) rfl;refine aM cL (X.cell 0 rfl 0 _ rfl) J (λU J=>?_) rfl;refine aW cL (X.rdl 1 (I.rdl qz hZ) rfl).2.1 J (λU J=>?_) rfl;refine xk 1 J rfl λU J=>?_;replace X:=aH (x:=a0) ((SH.pure_ I X).pk 1);refine kG G rP J rfl (λ_ h=>aE h X (qz+0) hZ) (λY w X G=>?_) λY v U w hR J G=>?_
 ·cases G;exact hQp _ rfl _ _ J.defers X
 obtain⟨rfl,X⟩:=hR;obtain⟨b8,b9,c0,X⟩:=aB X;obtain⟨z,X⟩:=(X.pk 1).unpure;refine wn (S _ _ ?_);refine ws λc4 a1=>xk 2 J rfl λU J=>aO rU J (λU J=>?_) rfl;refine aM cL (X.cell 0 rfl 0 _ rfl) J (λU J=>?_) rfl;obtain⟨c5,N,G⟩:=bnd G;refine fK cL sz5 (X.rdl 1 (z.rdl qz hZ) rfl) N J (λU J=>?_) rfl;obtain⟨cs,hV,a3⟩:=el (X.rdl 1 (z.rdl qz hZ) rfl) N;obtain rfl:=hV;refine aM uu5 (a3 0 _ rfl) J (λU J=>?_) rfl;refine x_m J rfl λU J=>wn (a1 _ _ ?_);refine ws λc6 a4=>xk 3 J rfl λU J=>aO rU J (λU J=>?_) rfl;refine aM cL (X.cell 0 rfl 0 _ rfl) J (λU J=>?_) rfl;obtain⟨a5,C,G⟩:=bnd G;obtain⟨a6,a7,a8,a9,b3⟩:=aGq z C;refine x_v (v:=.slice a6 a7 a8) J (aD7 a9 (lX cL sz5 rfl (J.ev rfl) (J.ev rfl) (oH (X.rdl 1 (z.rdl qz hZ) rfl) C).1 (oH (X.rdl 1 (z.rdl qz hZ) rfl) C).2.2.2.2.2)) rfl λU J=>xk 1 J rfl λU J=>aO rU J (λU J=>?_) rfl;refine eH 0 aEn J X rfl (λU w X J=>?_) rfl;refine wn (a4 _ _ ?_);refine nz 2 J rfl λU J=>?_;replace X:=(SH.pure_ b3 X).pk 1;replace X:=aH (x:=(⟨a5⟩:S140)) X;cases G;refine wp_ret (hQ _ rfl _ _ ?_);exact lv Tryz.results74 J rfl ⟨rfl,X⟩
theorem aS {a0 a1 g0 y} (G:bC a0 a1=some y) (X:SH r (obj140 Z wz g0 a0::L) w) (qz:Nat) (hZ:L[qz]?=some (zone Z wz)) :
  RetS Tryz.prog 50 #[.pointer (some ⟨g0,0,none⟩),.int .u64 a1] w aDd y (λy v w'=>v=.int .u64 y.1/\SH r (obj140 Z wz g0 y.2::L) w') (λy w'=>SH r (obj140 Z wz g0 y::L) w'):=by
 refine vI Tryz.func50 rfl Tryz.ntmps50 [(0,_),(1,_)] rfl (by simp) ?_;intro U J Qf hQ hQn hQp;unfold bC at G;obtain⟨d5,d6,d7,X⟩:=aB X;obtain⟨d8,X⟩:=(X.pk 1).unpure;refine nz 1 J rfl λU J=>nz 1 J rfl λU J=>nz 1 J rfl λU J=>aA λi1 i2=>?_;obtain⟨i3,d9,G⟩:=bnd G;have z:=G;refine aT d9 (λs U w=>∃b3 b4 b5,Imm Z wz (kI .u8) b3 b4 b5 s.1/\FR 48 [] U [(0,(pP g0)),(1,.int .u64 a1),(5,.int .u64 s.2.1),(6,.int .i64 s.2.2)]/\SH r (blk g0 140 [.slice b3 b4 b5]::L) w) ⟨d5,d6,d7,d8,J.sub _ rfl,X⟩ ?_;intro i4 e1 b6 G e2 C U w hLab;obtain⟨d3,b7,b8⟩:=e1;replace G:dZ a1 d3 b7 b8=some b6:=G;unfold dZ at G
 try dsimp only at hLab
 obtain⟨b3,b4,b5,e3,J,X⟩:=hLab;refine wp_seq_k λi5 e4=>aA λi6 e5=>ws λi7 e6=>xk 1 J rfl λU J=>?_;replace X:=(SH.pure_ e3 X).pk 1;replace X:=aH (x:=(⟨d3⟩:S140)) X;refine kG G aYr J rfl (λ_ h=>rL h X (qz+0) hZ) (λI w X G=>?_) λI v U w hR J G=>?_
 ·cases G;have ht:=C _ rfl;subst ht;replace G:=z;replace G:some (.inr I)=some y:=G;cases G;exact hQp _ rfl _ _ J.defers X
 obtain⟨rfl,X⟩:=hR;obtain⟨i8,i9,j0,X⟩:=aB X;obtain⟨b9,X⟩:=(X.pk 1).unpure;refine x_m J rfl λU J=>wn (e6 _ _ ?_);refine wp_seq_k λe7 e8=>?_;have hj1:∀Y,dW a1 b7 b8 I Y=some b6->∀a7 a8 a9 (a3:Imm Z wz (kI .u8) a7 a8 a9 Y) U w,FR 48 [] U [(0,(pP g0)),(1,.int .u64 a1),(5,.int .u64 b7),(6,.int .i64 b8),(7,.int .u8 I.1)]->SH r (blk g0 140 [.slice a7 a8 a9]::L) w->e7 U w:=by
  intro Y G a7 a8 a9 a3 U w J X;unfold dW at G;refine e8 _ _ (ws λj1 e9=>?_);refine xk 2 J rfl λU J=>x_l G J rfl λj2 _ U J G=>eP G J (aQ uu5 bS rfl (J.ev rfl)) rfl λj3 _ U J G=>x_m J rfl λU J=>x_l G J rfl λj4 _ U J G=>?_;obtain⟨f1,G⟩:=aC G;refine eP G J (aDo rfl (J.ev rfl) (J.ev rfl) f1) rfl λj5 _ U J G=>x_l G J rfl λc0 _ U J G=>x_m J rfl λU J=>wn (e9 _ _ ?_);refine nz 2 J rfl λU J=>aX J G rfl (λf2 G=>?_) λf2 G=>?_
  ·refine wp_seq_k λf3 f4=>?_;have hj2:∀a4,jP c0 a4=some b6->∀c4 c5 c6 (d4:Imm Z wz (kI .u8) c4 c5 c6 a4) U w,FR 48 [] U [(0,(pP g0)),(5,.int .u64 c0)]->SH r (blk g0 140 [.slice c4 c5 c6]::L) w->f3 U w:=by intro a4 G c4 c5 c6 d4 U w J X;unfold jP at G;refine f4 _ _ (nz 2 J rfl λU J=>?_);replace X:=(SH.pure_ d4 X).pk 1;replace X:=aH (x:=(⟨a4⟩:S140)) X;cases G;refine wp_ret ?_;have ht:=C _ rfl;subst ht;replace G:=z;replace G:some (.inl (c0,(⟨a4⟩:S140)))=some y:=G;cases G;refine hQ _ rfl _ _ (lv Tryz.results50 J rfl ?_);exact⟨rfl,X⟩
   refine aD (xk 5 J rfl λU J=>?_);refine bcG G (λN G=>?_) λN G=>?_
   ·refine xg 3 N J rfl rfl λU J=>bcG G (λa5 G=>?_) λa5 G=>?_
    ·refine xg 2 a5 J rfl rfl λU J=>aN N J ?_ rfl;refine xg 1 a5 J rfl rfl λU J=>xg 1 N J rfl rfl λU J=>?_;replace X:=(SH.pure_ a3 X).pk 1;replace X:=aH (x:=(⟨Y⟩:S140)) X;refine kG G rP J rfl (λ_ h=>aE h X (qz+0) hZ) (λc7 w X G=>?_) λc7 v U w hR J G=>?_
     ·cases G;have ht:=C _ rfl;subst ht;replace G:=z;replace G:some (.inr c7)=some y:=G;cases G;exact hQp _ rfl _ _ J.defers X
     obtain⟨rfl,X⟩:=hR;obtain⟨f5,f6,f7,X⟩:=aB X;obtain⟨f8,X⟩:=(X.pk 1).unpure;exact wpList_nil (hj2 c7.f0 G f5 f6 f7 f8 U w (J.sub _ rfl) X)
    refine xg 2 a5 J rfl rfl λU J=>aN N J ?_ rfl;refine xg 1 a5 J rfl rfl λU J=>xg 1 N J rfl rfl λU J=>?_;replace X:=(SH.pure_ a3 X).pk 1;replace X:=aH (x:=(⟨Y⟩:S140)) X;refine kG G rP J rfl (λ_ h=>aE h X (qz+0) hZ) (λc8 w X G=>?_) λc8 v U w hR J G=>?_
    ·cases G;have ht:=C _ rfl;subst ht;replace G:=z;replace G:some (.inr c8)=some y:=G;cases G;exact hQp _ rfl _ _ J.defers X
    obtain⟨rfl,X⟩:=hR;obtain⟨f9,g1,g2,X⟩:=aB X;obtain⟨g3,X⟩:=(X.pk 1).unpure;exact wpList_nil (hj2 c8.f0 G f9 g1 g2 g3 U w (J.sub _ rfl) X)
   refine xg 7 N J rfl rfl λU J=>?_;replace X:=(SH.pure_ a3 X).pk 1;replace X:=aH (x:=(⟨Y⟩:S140)) X;refine kG G rP J rfl (λ_ h=>aE h X (qz+0) hZ) (λc9 w X G=>?_) λc9 v U w hR J G=>?_
   ·cases G;have ht:=C _ rfl;subst ht;replace G:=z;replace G:some (.inr c9)=some y:=G;cases G;exact hQp _ rfl _ _ J.defers X
   obtain⟨rfl,X⟩:=hR;obtain⟨g4,g5,g6,X⟩:=aB X;obtain⟨g7,X⟩:=(X.pk 1).unpure;exact wpList_nil (hj2 c9.f0 G g4 g5 g6 g7 U w (J.sub _ rfl) X)
  refine wp_skip (e5 _ _ ?_);refine e4 _ _ (aD ?_);refine x_m J rfl λU J=>x_l G J rfl λj6 _ U J G=>x_m J rfl λU J=>wpList_nil ?_;cases G;exact⟨_,e2 _ rfl,a7,a8,a9,a3,J.sub _ rfl,X⟩
 refine aD (xk 4 J rfl λU J=>?_);refine bcG G (λS G=>?_) λS G=>?_
 ·refine xg 7 S J rfl rfl λU J=>?_;replace X:=aH (x:=I.2) ((SH.pure_ b9 X).pk 1);refine kG G rP J rfl (λ_ h=>aE h X (qz+0) hZ) (λd0 w X G=>?_) λd0 v U w hR J G=>?_
  ·cases G;have ht:=C _ rfl;subst ht;replace G:=z;replace G:some (.inr d0)=some y:=G;cases G;exact hQp _ rfl _ _ J.defers X
  obtain⟨rfl,X⟩:=hR;obtain⟨g8,g9,h1,X⟩:=aB X;obtain⟨h2,X⟩:=(X.pk 1).unpure;exact wpList_nil (hj1 d0.f0 G g8 g9 h1 h2 U w (J.sub _ rfl) X)
 refine xg 3 S J rfl rfl λU J=>bcG G (λa6 G=>?_) λa6 G=>?_
 ·refine xg 2 a6 J rfl rfl λU J=>aN S J ?_ rfl;refine xg 1 a6 J rfl rfl λU J=>xg 1 S J rfl rfl λU J=>?_;replace X:=aH (x:=I.2) ((SH.pure_ b9 X).pk 1);refine kG G rP J rfl (λ_ h=>aE h X (qz+0) hZ) (λd1 w X G=>?_) λd1 v U w hR J G=>?_
  ·cases G;have ht:=C _ rfl;subst ht;replace G:=z;replace G:some (.inr d1)=some y:=G;cases G;exact hQp _ rfl _ _ J.defers X
  obtain⟨rfl,X⟩:=hR;obtain⟨h3,h4,h5,X⟩:=aB X;obtain⟨h6,X⟩:=(X.pk 1).unpure;exact wpList_nil (hj1 d1.f0 G h3 h4 h5 h6 U w (J.sub _ rfl) X)
 refine xg 2 a6 J rfl rfl λU J=>aN S J ?_ rfl;refine xg 1 a6 J rfl rfl λU J=>xg 1 S J rfl rfl λU J=>?_;replace X:=aH (x:=I.2) ((SH.pure_ b9 X).pk 1);refine kG G rP J rfl (λ_ h=>aE h X (qz+0) hZ) (λd2 w X G=>?_) λd2 v U w hR J G=>?_
 ·cases G;have ht:=C _ rfl;subst ht;replace G:=z;replace G:some (.inr d2)=some y:=G;cases G;exact hQp _ rfl _ _ J.defers X
 obtain⟨rfl,X⟩:=hR;obtain⟨h7,h8,h9,X⟩:=aB X;obtain⟨i0,X⟩:=(X.pk 1).unpure;exact wpList_nil (hj1 d2.f0 G h7 h8 h9 i0 U w (J.sub _ rfl) X)
theorem fE {a0 g0 y} (G:cX a0=some y) (X:SH r (obj140 Z wz g0 a0::L) w) (qz:Nat) (hZ:L[qz]?=some (zone Z wz)) :
  RetS Tryz.prog 51 #[.pointer (some ⟨g0,0,none⟩)] w aDd y (λy v w'=>v=.int .i64 y.1/\SH r (obj140 Z wz g0 y.2::L) w') (λy w'=>SH r (obj140 Z wz g0 y::L) w'):=by
 refine vI Tryz.func51 rfl Tryz.ntmps51 [(0,_)] rfl (by simp) ?_;intro U J Qf hQ hQn hQp;unfold cX at G;refine nz 1 J rfl λU J=>ws λN z=>xk 1 J rfl λU J=>kG G xP J rfl (λ_ h=>aS h X (qz+0) hZ) (λC w X G=>?_) λC v U w hR J G=>?_
 ·cases G;exact hQp _ rfl _ _ J.defers X
 obtain⟨rfl,X⟩:=hR;refine x_m J rfl λU J=>wn (z _ _ ?_);refine ws λS I=>xk 1 J rfl λU J=>eP G J (uI rfl (J.ev rfl) (J.ev rfl) (by decide)) rfl λY _ U J G=>eP G J (aQ bS uu2 rfl (J.ev rfl)) rfl λa1 _ U J G=>x_m J rfl λU J=>x_l G J rfl λa3 _ U J G=>eP G J (aQ bS uu2 rfl (J.ev rfl)) rfl λa4 _ U J G=>x_v J (bCc rfl (J.ev rfl)) rfl λU J=>x_l G J rfl λa5 _ U J G=>x_m J rfl λU J=>wn (I _ _ ?_);cases G;refine wp_ret (hQ _ rfl _ _ ?_);exact lv Tryz.results51 J rfl ⟨rfl,X⟩
theorem nR {a0 a1 g0 y} (G:eU a0 a1=some y) (X:SH r (obj140 Z wz g0 a0::L) w) (qz:Nat) (hZ:L[qz]?=some (zone Z wz)) :
  RetS Tryz.prog 93 #[.pointer (some ⟨g0,0,none⟩),.int .i64 a1] w aDd y (λy v w'=>v=str y.1/\SH r (obj140 Z wz g0 y.2::L) w') (λy w'=>SH r (obj140 Z wz g0 y::L) w'):=by
 refine vI Tryz.func93 rfl Tryz.ntmps93 [(0,_),(1,_)] rfl (by simp) ?_;intro U J Qf hQ hQn hQp;unfold eU at G;refine nz 1 J rfl λU J=>ws λc4 Y=>xk 2 J rfl λU J=>eP G J (aQ uu3 bS rfl (J.ev rfl)) rfl λc5 _ U J G=>kG G xP J rfl (λ_ h=>aS h X (qz+0) hZ) (λN w X G=>?_) λN v U w hR J G=>?_
 ·cases G;exact hQp _ rfl _ _ J.defers X
 obtain⟨rfl,X⟩:=hR;obtain⟨c6,c7,c8,X⟩:=aB X;obtain⟨S,X⟩:=(X.pk 1).unpure;refine x_m J rfl λU J=>wn (Y _ _ ?_);refine ws λc9 a3=>xk 4 J rfl λU J=>aO rU J (λU J=>?_) rfl;refine aM cL (X.cell 0 rfl 0 _ rfl) J (λU J=>?_) rfl;refine aW cL (X.rdl 1 (S.rdl qz hZ) rfl).2.1 J (λU J=>?_) rfl;refine eP G J (aQ uu3 bS rfl (J.ev rfl)) rfl λd0 _ U J G=>xk 1 J rfl λU J=>?_;replace X:=aH (x:=N.2) ((SH.pure_ S X).pk 1);refine kG G rP J rfl (λ_ h=>aE h X (qz+0) hZ) (λa4 w X G=>?_) λa4 v U w hR J G=>?_
 ·cases G;exact hQp _ rfl _ _ J.defers X
 obtain⟨rfl,X⟩:=hR;obtain⟨d1,d2,d3,X⟩:=aB X;obtain⟨z,X⟩:=(X.pk 1).unpure;refine wn (a3 _ _ ?_);refine ws λd4 a5=>xk 2 J rfl λU J=>aO rU J (λU J=>?_) rfl;refine aM cL (X.cell 0 rfl 0 _ rfl) J (λU J=>?_) rfl;refine x_m J rfl λU J=>?_;obtain⟨d5,C,G⟩:=bnd G;obtain⟨a6,a7,a8,a9,b3⟩:=aJ5 z C;refine x_v (v:=.slice a6 a7 a8) J (aD7 a9 (oU cL sz5 rfl (J.ev rfl) (J.ev rfl) (oH (X.rdl 1 (z.rdl qz hZ) rfl) C).2.2.2.2.1 (oH (X.rdl 1 (z.rdl qz hZ) rfl) C).2.2.1)) rfl λU J=>aTf cL uu5 uu9 (X.rdl 1 (b3.rdl qz hZ) rfl) J (λU J=>?_) rfl;refine x_m J rfl λU J=>wn (a5 _ _ ?_);refine ws λd6 b4=>xk 3 J rfl λU J=>aO rU J (λU J=>?_) rfl;refine aM cL (X.cell 0 rfl 0 _ rfl) J (λU J=>?_) rfl;refine x_m J rfl λU J=>?_;obtain⟨b5,I,G⟩:=bnd G;obtain⟨b6,b7,b8,b9,c0⟩:=aGq z I;refine x_v (v:=.slice b6 b7 b8) J (aD7 b9 (lX cL sz5 rfl (J.ev rfl) (J.ev rfl) (oH (X.rdl 1 (z.rdl qz hZ) rfl) I).1 (oH (X.rdl 1 (z.rdl qz hZ) rfl) I).2.2.2.2.2)) rfl λU J=>xk 1 J rfl λU J=>aO rU J (λU J=>?_) rfl;refine eH 0 aEn J X rfl (λU w X J=>?_) rfl;refine wn (b4 _ _ ?_);refine nz 2 J rfl λU J=>?_;replace X:=(SH.pure_ c0 X).pk 1;replace X:=aH (x:=(⟨b5⟩:S140)) X;cases G;refine wp_ret (hQ _ rfl _ _ ?_);exact lv Tryz.results93 J rfl ⟨rfl,X⟩
theorem aDg {a0 c7 z y} (G:nW a0 c7=some y) (X:SH r (obj140 Z wz z c7::L) w) (qz:Nat) (hZ:L[qz]?=some (zone Z wz)) :
  RetS Tryz.prog 128 #[.int .i64 a0,.func (.func 51) #[.pointer (some ⟨z,0,none⟩)] #[]] w aDd y (λy v w'=>∃ (B0:Option Addr) (m0:Nat) (d0:Nat),v=.slice B0 m0 d0/\SH r (own (kI .i64) 2 B0 m0 d0 y.1::obj140 Z wz z y.2::L) w') (λy w'=>SH r (obj140 Z wz z y::L) w'):=by
 refine vI Tryz.func128 rfl Tryz.ntmps128 [(0,_),(1,_)] rfl (by simp) ?_;intro U J Qf hQ hQn hQp;unfold nW at G;obtain⟨d5,d6,d7,X⟩:=aB X;obtain⟨d8,X⟩:=(X.pk 1).unpure;refine nz 1 J rfl λU J=>nz 1 J rfl λU J=>wp_seq_k λg2 d9=>nz 2 J rfl λU J=>aA λc8 e1=>?_;have hb1:∀S b9,rN S b9=some y->∀c0 c4 c5 Y a1 a3 (c9:Imm Z wz (kI .u8) c0 c4 c5 S) U w,FR 16 [] U [(1,.func (.func 51) #[.pointer (some ⟨z,0,none⟩)] #[]),(5,.slice Y a1 a3)]->SH r (blk z 140 [.slice c0 c4 c5]::own (kI .i64) 2 Y a1 a3 b9::L) w->c8 U w:=by intro S b9 G c0 c4 c5 Y a1 a3 c9 U w J X;unfold rN at G;refine e1 _ _ (d9 _ _ ?_);refine nz 2 J rfl λU J=>?_;replace X:=(SH.pure_ c9 X).pk 1;replace X:=(aH (x:=(⟨S⟩:S140)) X).pk 1;cases G;refine wp_ret (hQ _ rfl _ _ ?_);exact lv Tryz.results128 J rfl ⟨Y,a1,a3,rfl,X⟩
 obtain⟨e2,e3,G⟩:=bnd G;have e4:=G;have e5:∀I N,(.inl (I,N))=e2->∀a4 a5 a6 a7 a8 a9 (d1:Imm Z wz (kI .u8) a4 a5 a6 I) U w,FR 16 [] U [(1,.func (.func 51) #[.pointer (some ⟨z,0,none⟩)] #[]),(5,.slice a7 a8 a9)]->SH r (blk z 140 [.slice a4 a5 a6]::own (kI .i64) 2 a7 a8 a9 N::L) w->c8 U w:=by intro I N ht a4 a5 a6 a7 a8 a9 d1 U w J X;subst ht;replace G:pL I N=some y:=G;unfold pL at G;exact hb1 I N G a4 a5 a6 a7 a8 a9 d1 U w (J.sub _ rfl) X
 replace X:=(SH.nil_own (d:=(kI .i64)) (e:=2) X).pk 1;refine aT e3 (λs U w=>∃b3 b4 b5 b6 b7 b8,Imm Z wz (kI .u8) b3 b4 b5 s.1/\FR 16 [] U [(1,.func (.func 51) #[.pointer (some ⟨z,0,none⟩)] #[]),(5,.slice b6 b7 b8),(6,.int .i64 a0),(7,.int .i64 s.2.2)]/\SH r (blk z 140 [.slice b3 b4 b5]::own (kI .i64) 2 b6 b7 b8 s.2.1::L) w) ⟨d5,d6,d7,none,0,0,d8,J.sub _ rfl,X⟩ ?_;intro g3 e6 e7 G e8 d2 U w hLab;obtain⟨c6,d3,e9⟩:=e6;replace G:dG a0 c6 d3 e9=some e7:=G;unfold dG at G
 try dsimp only at hLab
 obtain⟨b3,b4,b5,b6,b7,b8,d4,J,X⟩:=hLab;refine nz 1 J rfl λU J=>wp_seq_k λg4 f0=>aX J G rfl (λf1 G=>?_) λf1 G=>?_
 ·refine wp_skip (f0 _ _ ?_);refine wp_seq_k λg5 f2=>aA λg6 f3=>aD (xk 2 J rfl λU J=>?_);replace X:=(SH.pure_ d4 X).pk 1;replace X:=aH (x:=(⟨c6⟩:S140)) X;refine kG G aL5 J rfl (λ_ h=>fE h X (qz+1) hZ) (λC w X G=>?_) λC v U w hR J G=>?_
  ·replace X:=X.drop 1;cases G;have ht:=d2 _ rfl;subst ht;replace G:=e4;replace G:some (.inr C)=some y:=G;cases G;exact hQp _ rfl _ _ J.defers X
  obtain⟨rfl,X⟩:=hR;obtain⟨f4,f5,f6,X⟩:=aB X;obtain⟨f7,X⟩:=(X.pk 1).unpure;refine kV (d:=(kI .i64)) (e:=2) (ps:=#[(0,.int .i64 C.1)]) (cells:=[.int .i64 C.1]) (xs:=[C.1]) (λw=>by kernel_rfl) rfl ⟨[.int .i64 C.1],_,rfl,rfl,rfl⟩ J X (λg7 U w X J=>?_) rfl;obtain⟨f8,G⟩:=aC G;have hr:=X.rd 0 rfl;refine lI 2 mH bT J X hr.1 hr.2.1 f8 rfl (λf9 g0 g1 U w X J=>?_) rfl;refine x_m J rfl λU J=>wpList_nil (f3 _ _ ?_);refine f2 _ _ (aD ?_);refine x_l G J rfl λg8 _ U J G=>x_m J rfl λU J=>wpList_nil ?_;replace X:=X.drop 1 |>.pk 1;cases G;exact⟨_,e8 _ rfl,f4,f5,f6,f9,g0,g1,f7,J.sub _ rfl,X⟩
 cases G;exact wp_exit (e5 c6 d3 (d2 _ rfl) b3 b4 b5 b6 b7 b8 d4 U w (J.sub _ rfl) X)
theorem aF9 {a0 a1 g0 y} (G:tB a0 a1=some y) (X:SH r (obj140 Z wz g0 a0::L) w) (qz:Nat) (hZ:L[qz]?=some (zone Z wz)) :
  RetS Tryz.prog 129 #[.pointer (some ⟨g0,0,none⟩),.int .i64 a1] w aDd y (λy v w'=>∃ (B0:Option Addr) (m0:Nat) (d0:Nat),v=.slice B0 m0 d0/\SH r (own (kI .i64) 2 B0 m0 d0 y.1::obj140 Z wz g0 y.2::L) w') (λy w'=>SH r (obj140 Z wz g0 y::L) w'):=by
 refine vI Tryz.func129 rfl Tryz.ntmps129 [(0,_),(1,_)] rfl (by simp) ?_;intro U J Qf hQ hQn hQp;unfold tB at G;refine nz 1 J rfl λU J=>ws λn4 f8=>xk 1 J rfl λU J=>kG G aL5 J rfl (λ_ h=>fE h X (qz+0) hZ) (λC w X G=>?_) λC v U w hR J G=>?_
 ·cases G;exact hQp _ rfl _ _ J.defers X
 obtain⟨rfl,X⟩:=hR;refine x_m J rfl λU J=>kG G aYr J rfl (λ_ h=>rL h X (qz+0) hZ) (λd5 w X G=>?_) λd5 v U w hR J G=>?_
 ·cases G;exact hQp _ rfl _ _ J.defers X
 obtain⟨rfl,X⟩:=hR;obtain⟨n5,n6,n7,X⟩:=aB X;obtain⟨d6,X⟩:=(X.pk 1).unpure;refine eP G J (aQ uu5 uu3 rfl (J.ev rfl)) rfl λN _ U J G=>nk 2 J rfl λU J=>f8 _ _ (wp_seq_k λf9 g1=>?_);have hj1:∀d7,pF a1 C N d7=some y->∀b6 b7 b8 (d8:Imm Z wz (kI .u8) b6 b7 b8 d7) U w,FR 98 [] U [(0,(pP g0)),(1,.int .i64 a1),(5,.int .i64 C.1),(6,.int .i64 N)]->SH r (blk g0 140 [.slice b6 b7 b8]::L) w->f9 U w:=by
  intro d7 G b6 b7 b8 d8 U w J X;unfold pF at G;refine g1 _ _ (ws λn8 g2=>?_);refine xk 1 J rfl λU J=>?_;obtain⟨g3,G⟩:=aC G;refine aOv (d:=(kI .i64)) (bytes:=8) 0 mH rfl bT g3 J X (λz U w X J=>?_) rfl;refine x_m J rfl λU J=>wn (g2 _ _ ?_);refine wp_seq_k λn9 g4=>ws λo0 g5=>xk 2 J rfl λU J=>aO rU J (λU J=>?_) rfl;refine aM cL (X.cell 1 rfl 0 _ rfl) J (λU J=>?_) rfl;refine aW cL (X.rdl 2 (d8.rdl qz hZ) rfl).2.1 J (λU J=>?_) rfl;refine x_l G J rfl λd9 _ U J G=>x_m J rfl λU J=>wn (g5 _ _ ?_);refine aA λe6 g6=>?_;have hb1:∀e1 a4,rZ C e1 a4=some y->∀S Y a3 (g7:Imm Z wz (kI .u8) S Y a3 e1) U w,FR 98 [] U [(0,(pP g0)),(5,.int .i64 C.1),(7,.slice (some ⟨z,0,none⟩) a1.toNat a1.toNat)]->SH r (blk g0 140 [.slice S Y a3]::own (kI .i64) 2 (some ⟨z,0,none⟩) a1.toNat a1.toNat a4::L) w->e6 U w:=by
   intro e1 a4 G S Y a3 g7 U w J X;unfold rZ at G;refine g6 _ _ (g4 _ _ ?_);refine wp_seq_k λo1 g8=>ws λo2 g9=>xk 1 J rfl λU J=>aW bT (X.rd 1 rfl).2.1 J (λU J=>?_) rfl;refine x_m J rfl λU J=>wn (g9 _ _ ?_);refine aA λe7 h1=>?_;have hb2:∀e2,vL e2=some y->∀U w,FR 98 [] U [(0,(pP g0)),(7,.slice (some ⟨z,0,none⟩) a1.toNat a1.toNat)]->SH r (blk g0 140 [.slice S Y a3]::own (kI .i64) 2 (some ⟨z,0,none⟩) a1.toNat a1.toNat e2::L) w->e7 U w:=by intro e2 G U w J X;unfold vL at G;refine h1 _ _ (g8 _ _ ?_);refine ws λo3 h2=>xk 2 J rfl λU J=>aO rU J (λU J=>?_) rfl;refine eH 0 aEn J X rfl (λU w X J=>?_) rfl;refine wn (h2 _ _ ?_);refine nz 2 J rfl λU J=>?_;replace X:=(SH.pure_ (Imm.nil:Imm Z wz (kI .u8) none 0 0 []) X).pk 1;replace X:=(aH (x:=(⟨[]⟩:S140)) X).pk 1;cases G;refine wp_ret (hQ _ rfl _ _ ?_);exact lv Tryz.results129 J rfl ⟨some ⟨z,0,none⟩,a1.toNat,a1.toNat,rfl,X⟩
   obtain⟨h3,h4,G⟩:=bnd G;have h5:∀a5,(a5)=h3->∀U w,FR 98 [] U [(0,(pP g0)),(7,.slice (some ⟨z,0,none⟩) a1.toNat a1.toNat)]->SH r (blk g0 140 [.slice S Y a3]::own (kI .i64) 2 (some ⟨z,0,none⟩) a1.toNat a1.toNat a5::L) w->e7 U w:=by intro a5 ht U w J X;subst ht;replace G:tK a5=some y:=G;unfold tK at G;exact hb2 a5 G U w (J.sub _ rfl) X
   refine aT h4 (λs U w=>FR 98 [] U [(0,(pP g0)),(5,.int .i64 C.1),(7,.slice (some ⟨z,0,none⟩) a1.toNat a1.toNat),(82,.int .i64 (a4.length:Int)),(83,.int .i64 s.2)]/\SH r (blk g0 140 [.slice S Y a3]::own (kI .i64) 2 (some ⟨z,0,none⟩) a1.toNat a1.toNat s.1::L) w) ⟨J.sub _ rfl,X⟩ ?_;intro o4 h6 h7 G h8 h9 U w hLab;obtain⟨e8,i0⟩:=h6;replace G:gG C a4 e8 i0=some h7:=G;unfold gG at G
   try dsimp only at hLab
   obtain⟨J,X⟩:=hLab;refine nz 1 J rfl λU J=>wp_seq_k λo5 i1=>aX J G rfl (λi2 G=>?_) λi2 G=>?_
   ·refine wp_skip (i1 _ _ ?_);refine wp_seq_k λo6 i3=>aA λo7 i4=>nz 2 J rfl λU J=>aD (xk 2 J rfl λU J=>?_);obtain⟨o8,b9,G⟩:=bnd G;refine fK bT sz2 (X.rd 1 rfl) b9 J (λU J=>?_) rfl;obtain⟨cs,hV,i5⟩:=el (X.rd 1 rfl) b9;obtain rfl:=hV;refine aM uu2 (i5 0 _ rfl) J (λU J=>?_) rfl;refine x_m J rfl λU J=>x_l G J rfl λe9 _ U J G=>fK bT sz2 (X.rd 1 rfl) b9 J (λU J=>?_) rfl;refine aR2 (z':=e9) (off:=0) (vs:=[.int .i64 e9]) 1 sz2 J X rfl (jJ b9).2.2 (λc h=>by cases h; rfl) (λU w X J=>?_) rfl rfl rfl rfl rfl rfl rfl rfl;refine wpList_nil (i4 _ _ ?_);refine i3 _ _ (aD ?_);refine x_l G J rfl λo9 _ U J G=>x_m J rfl λU J=>wpList_nil ?_;replace X:=X.pk 1;cases G;exact⟨_,h8 _ rfl,J.sub _ rfl,X⟩
   cases G;exact wp_exit (h5 e8 (h9 _ rfl) U w (J.sub _ rfl) X)
  obtain⟨i6,i7,G⟩:=bnd G;have i8:=G;have i9:∀a6 a7,(.inl (a6,a7))=i6->∀c0 c4 c5 (f1:Imm Z wz (kI .u8) c0 c4 c5 a6) U w,FR 98 [] U [(0,(pP g0)),(5,.int .i64 C.1),(7,.slice (some ⟨z,0,none⟩) a1.toNat a1.toNat)]->SH r (blk g0 140 [.slice c0 c4 c5]::own (kI .i64) 2 (some ⟨z,0,none⟩) a1.toNat a1.toNat a7::L) w->e6 U w:=by intro a6 a7 ht c0 c4 c5 f1 U w J X;subst ht;replace G:pW C a6 a7=some y:=G;unfold pW at G;exact hb1 a6 a7 G c0 c4 c5 f1 U w (J.sub _ rfl) X
  replace X:=X.pk 1;refine aT i7 (λs U w=>∃a8 a9 b3,Imm Z wz (kI .u8) a8 a9 b3 s.1/\FR 98 [] U [(0,(pP g0)),(1,.int .i64 a1),(5,.int .i64 C.1),(6,.int .i64 N),(7,.slice (some ⟨z,0,none⟩) a1.toNat a1.toNat),(40,.int .i64 d9),(41,.int .i64 s.2.2)]/\SH r (blk g0 140 [.slice a8 a9 b3]::own (kI .i64) 2 (some ⟨z,0,none⟩) a1.toNat a1.toNat s.2.1::L) w) ⟨b6,b7,b8,d8,J.sub _ rfl,X⟩ ?_;intro p0 j0 f2 G j1 f3 U w hLab;obtain⟨c6,c7,b4⟩:=j0;replace G:iI a1 N d9 c6 c7 b4=some f2:=G;unfold iI at G
  try dsimp only at hLab
  obtain⟨a8,a9,b3,b5,J,X⟩:=hLab;refine nz 1 J rfl λU J=>wp_seq_k λp4 j2=>aX J G rfl (λj3 G=>?_) λj3 G=>?_
  ·refine wp_skip (j2 _ _ ?_);refine wp_seq_k λp5 j4=>aA λj5 j6=>?_;have hb3:∀e3 e4,lY b4 e3 e4=some f2->∀c8 c9 d1 (f4:Imm Z wz (kI .u8) c8 c9 d1 e3) U w,FR 98 [] U [(0,(pP g0)),(1,.int .i64 a1),(5,.int .i64 C.1),(6,.int .i64 N),(7,.slice (some ⟨z,0,none⟩) a1.toNat a1.toNat),(40,.int .i64 d9),(41,.int .i64 b4)]->SH r (blk g0 140 [.slice c8 c9 d1]::own (kI .i64) 2 (some ⟨z,0,none⟩) a1.toNat a1.toNat e4::L) w->j5 U w:=by intro e3 e4 G c8 c9 d1 f4 U w J X;unfold lY at G;refine j6 _ _ (j4 _ _ ?_);refine aD (x_l G J rfl λp6 _ U J G=>?_);refine x_m J rfl λU J=>wpList_nil ?_;cases G;exact⟨_,j1 _ rfl,c8,c9,d1,f4,J.sub _ rfl,X⟩
   refine nz 2 J rfl λU J=>ws λp7 j7=>xk 2 J rfl λU J=>aO rU J (λU J=>?_) rfl;refine aM cL (X.cell 0 rfl 0 _ rfl) J (λU J=>?_) rfl;refine x_m J rfl λU J=>eP G J (aMe rfl (J.ev rfl) (J.ev rfl) (by decide)) rfl λp8 _ U J G=>?_;obtain⟨p9,f5,G⟩:=bnd G;refine fK cL sz5 (X.rdl 2 (b5.rdl qz hZ) rfl) f5 J (λU J=>?_) rfl;obtain⟨cs,hV,j8⟩:=el (X.rdl 2 (b5.rdl qz hZ) rfl) f5;obtain rfl:=hV;refine aM uu5 (j8 0 _ rfl) J (λU J=>?_) rfl;refine x_m J rfl λU J=>eP G J (aIh rfl (J.ev rfl) (J.ev rfl) (by decide)) rfl λq0 _ U J G=>?_;obtain⟨j9,G⟩:=aC G;refine eP G J (uI rfl (J.ev rfl) (J.ev rfl) j9) rfl λq1 _ U J G=>eP G J (aQ uu5 bS rfl (J.ev rfl)) rfl λq2 _ U J G=>x_l G J rfl λk0 _ U J G=>x_m J rfl λU J=>wn (j7 _ _ ?_);refine wp_seq_k λq3 k1=>ws λq4 k2=>xk 3 J rfl λU J=>x_l G J rfl λq5 _ U J G=>nk 1 J rfl λU J=>k2 _ _ (aX J G rfl (λk3 G=>?_) λk3 G=>?_)
   ·refine ws λq6 k4=>xk 3 J rfl λU J=>?_;replace X:=(SH.pure_ b5 X).pk 1;replace X:=aH (x:=(⟨c6⟩:S140)) X;refine kG G rP J rfl (λ_ h=>aE h X (qz+1) hZ) (λe5 w X G=>?_) λe5 v U w hR J G=>?_
    ·replace X:=X.drop 1;cases G;have ht:=f3 _ rfl;subst ht;replace G:=i8;replace G:some (.inr e5)=some y:=G;cases G;exact hQp _ rfl _ _ J.defers X
    obtain⟨rfl,X⟩:=hR;obtain⟨k5,k6,k7,X⟩:=aB X;obtain⟨k8,X⟩:=(X.pk 1).unpure;refine wn (k4 _ _ ?_);exact wp_exit (hb3 e5.f0 c7 G k5 k6 k7 k8 U w (J.sub _ rfl) X)
   refine wp_skip (k1 _ _ ?_);refine bZ [0,0,0,6,15,31,0,0,0,384,960,1984,4095,8191,16383] [14] rfl J X (by kernel_rfl) (by kernel_rfl) (by kernel_rfl) (by kernel_rfl) λw X=>?_;obtain⟨k9,G⟩:=aC G;obtain⟨d2,l0,G⟩:=gQ G;obtain⟨l1,d3,G⟩:=bnd G;obtain⟨cs,hV,l2⟩:=el (X.rd 1 rfl) d3;obtain rfl:=hV;obtain⟨l3,G⟩:=aC G;obtain⟨l4,l5,G⟩:=gQ G;obtain⟨l6,G⟩:=aC G;obtain⟨l7,l8,G⟩:=gQ G;obtain⟨l9,m1,G⟩:=gQ G;obtain⟨d4,m2,G⟩:=gQ G;refine⟨[(0,.slice (some ⟨z,0,none⟩) a1.toNat a1.toNat),(1,.int .i64 b4),(2,.int .i64 N),(3,.int .i64 d2),(4,.pointer (some (ea (some ⟨z,0,none⟩) (d2.toNat * 1)))),(5,.int .i64 l1),(6,.int .u64 k0),(7,.int .i64 b4),(8,.int .i64 N),(9,.int .i64 l4),(10,.int .u64 l7),(11,.int .i64 l9),(12,.int .i64 d4),(13,.pointer (some (ea (some ⟨z,0,none⟩) (d2.toNat * 1))))],?_⟩;refine dF [0,1,2,3,4,5,6,7,8,9,10,11,12,13] [14] (by kernel_rfl) ⟨pm rfl,pm rfl,pm rfl,pt [(67,_),(68,_)] rfl λU J=>cO l0 (aMe rfl (J.ev rfl) (J.ev rfl) k9),pt [(66,_),(69,_)] rfl (λU J=>eW bT sz2 (X.rd 1 rfl) d3 J rfl rfl rfl),pt [(70,_)] rfl (λU J=>aP uu2 (l2 0 _ rfl) J rfl rfl rfl),pm rfl,pm rfl,pm rfl,pt [(73,_),(74,_)] rfl λU J=>cO l5 (aIh rfl (J.ev rfl) (J.ev rfl) l3),pt [(72,_),(75,_)] rfl λU J=>cO l8 (aDo rfl (J.ev rfl) (J.ev rfl) l6),pt [(76,_)] rfl λU J=>cO m1 (aQ bS uu2 rfl (J.ev rfl)),pt [(71,_),(77,_)] rfl λU J=>cO m2 (aK8 rfl (J.ev rfl) (J.ev rfl)),pt [(66,_),(69,_)] rfl (λU J=>eW bT sz2 (X.rd 1 rfl) d3 J rfl rfl rfl),trivial⟩ ⟨et [(78,_),(79,_)] rfl (λU J K hK=>?_),trivial⟩;refine aMk (z':=d4) (off:=0) (vs:=[.int .i64 d4]) 1 sz2 J X rfl (jJ d3).2.2 (λc h=>by cases h; rfl) (λw X=>?_) rfl rfl rfl rfl rfl rfl;refine hK _ [] _ rfl (dU [] (by kernel_rfl) trivial ⟨by kernel_rfl,by kernel_rfl⟩ [(0,_),(1,_),(5,_),(6,_),(7,_),(40,_),(41,_)] rfl (λU J=>?_));replace X:=X.pk 1;exact hb3 c6 (c7.set d2.toNat d4) G a8 a9 b3 b5 U w (J.sub _ rfl) X
  cases G;exact wp_exit (i9 c6 c7 (f3 _ rfl) a8 a9 b3 b5 U w (J.sub _ rfl) X)
 refine aD (xk 4 J rfl λU J=>?_);refine bcG G (λI G=>?_) λI G=>?_
 ·refine xg 2 I J rfl rfl λU J=>aN I J ?_ rfl;refine aO rU J (λU J=>?_) rfl;refine aN I J ?_ rfl;refine aM cL (X.cell 0 rfl 0 _ rfl) J (λU J=>?_) rfl;refine aN I J ?_ rfl;refine aW cL (X.rdl 1 (d6.rdl qz hZ) rfl).2.1 J (λU J=>?_) rfl;refine xg 2 I J rfl rfl λU J=>aN I J ?_ rfl;refine x_l G J rfl λq7 _ U J G=>aN I J ?_ rfl;refine x_l G J rfl λq8 _ U J G=>aN I J ?_ rfl;refine eP G J (aMe rfl (J.ev rfl) (J.ev rfl) (by decide)) rfl λq9 _ U J G=>xg 2 I J rfl rfl λU J=>?_;replace X:=aH (x:=d5.2) ((SH.pure_ d6 X).pk 1);refine kG G rP J rfl (λ_ h=>aE h X (qz+0) hZ) (λf6 w X G=>?_) λf6 v U w hR J G=>?_
  ·cases G;exact hQp _ rfl _ _ J.defers X
  obtain⟨rfl,X⟩:=hR;obtain⟨m3,m4,m5,X⟩:=aB X;obtain⟨m6,X⟩:=(X.pk 1).unpure;exact wpList_nil (hj1 f6.f0 G m3 m4 m5 m6 U w (J.sub _ rfl) X)
 refine xg 12 I J rfl rfl λU J=>?_;replace X:=aH (x:=d5.2) ((SH.pure_ d6 X).pk 1);refine kG G rP J rfl (λ_ h=>aE h X (qz+0) hZ) (λf7 w X G=>?_) λf7 v U w hR J G=>?_
 ·cases G;exact hQp _ rfl _ _ J.defers X
 obtain⟨rfl,X⟩:=hR;obtain⟨m7,m8,m9,X⟩:=aB X;obtain⟨n0,X⟩:=(X.pk 1).unpure;exact wpList_nil (hj1 f7.f0 G m7 m8 m9 n0 U w (J.sub _ rfl) X)
theorem aDk {a0 g0 y} (G:tY a0=some y) (X:SH r (obj140 Z wz g0 a0::L) w) (qz:Nat) (hZ:L[qz]?=some (zone Z wz)) :
  RetS Tryz.prog 111 #[.pointer (some ⟨g0,0,none⟩)] w aDd y (λy v w'=>∃ (B0:Option Addr) (m0:Nat) (d0:Nat),v=.slice B0 m0 d0/\SH r (own (kI .i64) 2 B0 m0 d0 y.1::obj140 Z wz g0 y.2::L) w') (λy w'=>SH r (obj140 Z wz g0 y::L) w'):=by
 refine vI Tryz.func111 rfl Tryz.ntmps111 [(0,_)] rfl (by simp) ?_;intro U J Qf hQ hQn hQp;unfold tY at G;refine nz 1 J rfl λU J=>ws λt5 k5=>xk 1 J rfl λU J=>kG G aYr J rfl (λ_ h=>rL h X (qz+0) hZ) (λk6 w X G=>?_) λk6 v U w hR J G=>?_
 ·cases G;exact hQp _ rfl _ _ J.defers X
 obtain⟨rfl,X⟩:=hR;refine x_m J rfl λU J=>wn (k5 _ _ ?_);refine ws λt6 k7=>xk 3 J rfl λU J=>kG G rP J rfl (λ_ h=>aE h X (qz+0) hZ) (λk8 w X G=>?_) λk8 v U w hR J G=>?_
 ·cases G;exact hQp _ rfl _ _ J.defers X
 obtain⟨rfl,X⟩:=hR;refine wn (k7 _ _ ?_);refine ws λt7 k9=>xk 1 J rfl λU J=>kG G xP J rfl (λ_ h=>aS h X (qz+0) hZ) (λN w X G=>?_) λN v U w hR J G=>?_
 ·cases G;exact hQp _ rfl _ _ J.defers X
 obtain⟨rfl,X⟩:=hR;obtain⟨a8,a9,b3,X⟩:=aB X;obtain⟨I,X⟩:=(X.pk 1).unpure;refine eP G J (aQ bS uu3 rfl (J.ev rfl)) rfl λC _ U J G=>x_m J rfl λU J=>wn (k9 _ _ ?_);refine nz 1 J rfl λU J=>wp_seq_k λt8 l0=>nz 1 J rfl λU J=>aA λl1 l2=>?_;have hb1:∀b4 h7,kW b4 h7=some y->∀h8 h9 i0 b5 b6 b7 (i8:Imm Z wz (kI .u8) h8 h9 i0 b4) U w,FR 70 [] U [(0,(pP g0)),(5,.slice b5 b6 b7)]->SH r (blk g0 140 [.slice h8 h9 i0]::own (kI .i64) 2 b5 b6 b7 h7::L) w->l1 U w:=by intro b4 h7 G h8 h9 i0 b5 b6 b7 i8 U w J X;unfold kW at G;refine l2 _ _ (l0 _ _ ?_);refine nz 2 J rfl λU J=>?_;replace X:=(SH.pure_ i8 X).pk 1;replace X:=(aH (x:=(⟨b4⟩:S140)) X).pk 1;cases G;refine wp_ret (hQ _ rfl _ _ ?_);exact lv Tryz.results111 J rfl ⟨b5,b6,b7,rfl,X⟩
 refine nz 2 J rfl λU J=>aX J G rfl (λl3 G=>?_) λl3 G=>?_
 ·refine aD (xk 2 J rfl λU J=>?_);refine x_v J (gO rfl (lU (vals:=#[.pointer (some ⟨g0,0,none⟩)]) J rfl) (lU (vals:=#[]) J rfl)) rfl λU J=>?_;replace X:=aH (x:=N.2) ((SH.pure_ I X).pk 1);refine kG G bBl J rfl (λ_ h=>aDg h X (qz+0) hZ) (λi1 w X G=>?_) λi1 v U w hR J G=>?_
  ·cases G;exact hQp _ rfl _ _ J.defers X
  obtain⟨l4,l5,l6,rfl,X⟩:=hR;obtain⟨l7,l8,l9,X⟩:=aB (X.pk 1);obtain⟨m1,X⟩:=(X.pk 1).unpure;exact x_m J rfl λU J=>wpList_nil (hb1 i1.2.f0 i1.1 G l7 l8 l9 l4 l5 l6 m1 U w (J.sub _ rfl) X)
 refine nz 2 J rfl λU J=>aX J G rfl (λm2 G=>?_) λm2 G=>?_
 ·refine nz 1 J rfl λU J=>nz 2 J rfl λU J=>aA λi9 m3=>?_;have hb2:∀b8 b9,yR b8 b9=some y->∀c0 c4 c5 c6 c7 c8 (j0:Imm Z wz (kI .u8) c0 c4 c5 b8) U w,FR 70 [] U [(0,(pP g0)),(5,.slice c6 c7 c8)]->SH r (blk g0 140 [.slice c0 c4 c5]::own (kI .i64) 2 c6 c7 c8 b9::L) w->i9 U w:=by intro b8 b9 G c0 c4 c5 c6 c7 c8 j0 U w J X;unfold yR at G;exact m3 _ _ (hb1 b8 b9 G c0 c4 c5 c6 c7 c8 j0 U w (J.sub _ rfl) X)
  obtain⟨t183,m4,G⟩:=bnd G;have m5:=G;have m6:∀S Y,(.inl (S,Y))=t183->∀c9 d1 d2 d3 d4 d5 (j1:Imm Z wz (kI .u8) c9 d1 d2 S) U w,FR 70 [] U [(0,(pP g0)),(5,.slice d3 d4 d5)]->SH r (blk g0 140 [.slice c9 d1 d2]::own (kI .i64) 2 d3 d4 d5 Y::L) w->i9 U w:=by intro S Y ht c9 d1 d2 d3 d4 d5 j1 U w J X;subst ht;replace G:vK S Y=some y:=G;unfold vK at G;exact hb2 S Y G c9 d1 d2 d3 d4 d5 j1 U w (J.sub _ rfl) X
  replace X:=(SH.nil_own (d:=(kI .i64)) (e:=2) X).pk 1;refine aT m4 (λs U w=>∃d6 d7 d8 d9 e1 e2,Imm Z wz (kI .u8) d6 d7 d8 s.1/\FR 70 [] U [(0,(pP g0)),(5,.slice d9 e1 e2),(6,.int .i64 s.2.2.1),(26,.int .i64 C),(27,.int .i64 s.2.2.2)]/\SH r (blk g0 140 [.slice d6 d7 d8]::own (kI .i64) 2 d9 e1 e2 s.2.1::L) w) ⟨a8,a9,b3,none,0,0,I,J.sub _ rfl,X⟩ ?_;intro t9 m7 m8 G m9 j2 U w hLab;obtain⟨i2,j3,n0,n4⟩:=m7;replace G:hG C i2 j3 n0 n4=some m8:=G;unfold hG at G
  try dsimp only at hLab
  obtain⟨d6,d7,d8,d9,e1,e2,j4,J,X⟩:=hLab;refine nz 1 J rfl λU J=>wp_seq_k λu0 n5=>aX J G rfl (λn6 G=>?_) λn6 G=>?_
  ·refine wp_skip (n5 _ _ ?_);refine wp_seq_k λu1 n7=>aA λu2 n8=>ws λu3 n9=>xk 2 J rfl λU J=>?_;replace X:=(SH.pure_ j4 X).pk 1;replace X:=aH (x:=(⟨i2⟩:S140)) X;refine kG G aL5 J rfl (λ_ h=>fE h X (qz+1) hZ) (λj5 w X G=>?_) λj5 v U w hR J G=>?_
   ·replace X:=X.drop 1;cases G;have ht:=j2 _ rfl;subst ht;replace G:=m5;replace G:some (.inr j5)=some y:=G;cases G;exact hQp _ rfl _ _ J.defers X
   obtain⟨rfl,X⟩:=hR;obtain⟨o0,o1,o2,X⟩:=aB X;obtain⟨o3,X⟩:=(X.pk 1).unpure;refine x_l G J rfl λe3 _ U J G=>x_m J rfl λU J=>wn (n9 _ _ ?_);refine aD (xk 2 J rfl λU J=>?_);refine kV (d:=(kI .i64)) (e:=2) (ps:=#[(0,.int .i64 e3)]) (cells:=[.int .i64 e3]) (xs:=[e3]) (λw=>by kernel_rfl) rfl ⟨[.int .i64 e3],_,rfl,rfl,rfl⟩ J X (λu4 U w X J=>?_) rfl;obtain⟨o4,G⟩:=aC G;have hr:=X.rd 0 rfl;refine lI 2 mH bT J X hr.1 hr.2.1 o4 rfl (λo5 o6 o7 U w X J=>?_) rfl;refine x_m J rfl λU J=>wpList_nil (n8 _ _ ?_);refine n7 _ _ (aD ?_);refine x_l G J rfl λu5 _ U J G=>x_m J rfl λU J=>wpList_nil ?_;replace X:=X.drop 1 |>.pk 1;cases G;exact⟨_,m9 _ rfl,o0,o1,o2,o5,o6,o7,o3,J.sub _ rfl,X⟩
  cases G;exact wp_exit (m6 i2 j3 (j2 _ rfl) d6 d7 d8 d9 e1 e2 j4 U w (J.sub _ rfl) X)
 refine nz 2 J rfl λU J=>aX J G rfl (λo8 G=>?_) λo8 G=>?_
 ·refine aA λj6 o9=>?_;have hb3:∀e4 e5,xX e4 e5=some y->∀e6 e7 e8 e9 f1 f2 (j7:Imm Z wz (kI .u8) e6 e7 e8 e4) U w,FR 70 [] U [(0,(pP g0)),(5,.slice e9 f1 f2)]->SH r (blk g0 140 [.slice e6 e7 e8]::own (kI .i64) 2 e9 f1 f2 e5::L) w->j6 U w:=by intro e4 e5 G e6 e7 e8 e9 f1 f2 j7 U w J X;unfold xX at G;exact o9 _ _ (hb1 e4 e5 G e6 e7 e8 e9 f1 f2 j7 U w (J.sub _ rfl) X)
  obtain⟨p0,p4,G⟩:=bnd G;have j8:=G;have p5:∀a1 a3,(.inl (a1,a3))=p0->∀f3 f4 f5 f6 f7 f8 (j9:Imm Z wz (kI .u8) f3 f4 f5 a1) U w,FR 70 [] U [(0,(pP g0)),(5,.slice f6 f7 f8)]->SH r (blk g0 140 [.slice f3 f4 f5]::own (kI .i64) 2 f6 f7 f8 a3::L) w->j6 U w:=by intro a1 a3 ht f3 f4 f5 f6 f7 f8 j9 U w J X;subst ht;replace G:vS a1 a3=some y:=G;unfold vS at G;exact hb3 a1 a3 G f3 f4 f5 f6 f7 f8 j9 U w (J.sub _ rfl) X
  replace X:=(SH.nil_own (d:=(kI .i64)) (e:=2) X).pk 1;refine aT p4 (λs U w=>∃f9 g1 g2 a4 a5 a6,Imm Z wz (kI .u8) f9 g1 g2 s.1/\FR 70 [] U [(0,(pP g0)),(4,.int .i64 C),(5,.slice a4 a5 a6)]/\SH r (blk g0 140 [.slice f9 g1 g2]::own (kI .i64) 2 a4 a5 a6 s.2::L) w) ⟨a8,a9,b3,none,0,0,I,J.sub _ rfl,X⟩ ?_;intro u6 p6 i3 G p7 i4 U w hLab;obtain⟨i5,k0⟩:=p6;replace G:dS C i5 k0=some i3:=G;unfold dS at G
  try dsimp only at hLab
  obtain⟨f9,g1,g2,a4,a5,a6,k1,J,X⟩:=hLab;refine wp_seq_k λu7 p8=>ws λu9 p9=>xk 1 J rfl λU J=>aW bT (X.rd 1 rfl).2.1 J (λU J=>?_) rfl;refine nk 2 J rfl λU J=>p9 _ _ (aX J G rfl (λq0 G=>?_) λq0 G=>?_)
  ·refine wp_skip (p8 _ _ ?_);refine aA λv0 q1=>ws λv1 q2=>xk 1 J rfl λU J=>?_;replace X:=(SH.pure_ k1 X).pk 1;replace X:=aH (x:=(⟨i5⟩:S140)) X;refine kG G aL5 J rfl (λ_ h=>fE h X (qz+1) hZ) (λz w X G=>?_) λz v U w hR J G=>?_
   ·replace X:=X.drop 1;cases G;have ht:=i4 _ rfl;subst ht;replace G:=j8;replace G:some (.inr z)=some y:=G;cases G;exact hQp _ rfl _ _ J.defers X
   obtain⟨rfl,X⟩:=hR;obtain⟨v2,v3,v4,X⟩:=aB X;obtain⟨q3,X⟩:=(X.pk 1).unpure;refine x_m J rfl λU J=>wn (q2 _ _ ?_);refine ws λv5 q4=>xk 3 J rfl λU J=>aW bT (X.rd 1 rfl).2.1 J (λU J=>?_) rfl;refine x_l G J rfl λv6 _ U J G=>x_l G J rfl λv7 _ U J G=>eP G J (aQ uu3 bS rfl (J.ev rfl)) rfl λv8 _ U J G=>?_;replace X:=aH (x:=z.2) ((SH.pure_ q3 X).pk 1);refine kG G xP J rfl (λ_ h=>aS h X (qz+1) hZ) (λg3 w X G=>?_) λg3 v U w hR J G=>?_
   ·replace X:=X.drop 1;cases G;have ht:=i4 _ rfl;subst ht;replace G:=j8;replace G:some (.inr g3)=some y:=G;cases G;exact hQp _ rfl _ _ J.defers X
   obtain⟨rfl,X⟩:=hR;obtain⟨g4,g5,g6,X⟩:=aB X;obtain⟨q5,X⟩:=(X.pk 1).unpure;refine x_l G J rfl λk2 _ U J G=>x_m J rfl λU J=>wn (q4 _ _ ?_);refine aA λk3 q6=>?_;have hb4:∀i6,yL g3 i6=some i3->∀g7 g8 g9 U w,FR 70 [] U [(0,(pP g0)),(4,.int .i64 C),(5,.slice g7 g8 g9)]->SH r (blk g0 140 [.slice g4 g5 g6]::own (kI .i64) 2 g7 g8 g9 i6::L) w->k3 U w:=by intro i6 G g7 g8 g9 U w J X;unfold yL at G;cases G;refine q6 _ _ (q1 _ _ ?_);exact⟨_,p7 _ rfl,g4,g5,g6,g7,g8,g9,q5,J.sub _ rfl,X⟩
   obtain⟨q7,q8,G⟩:=bnd G;have q9:∀a7,(a7)=q7->∀h1 h2 h3 U w,FR 70 [] U [(0,(pP g0)),(4,.int .i64 C),(5,.slice h1 h2 h3)]->SH r (blk g0 140 [.slice g4 g5 g6]::own (kI .i64) 2 h1 h2 h3 a7::L) w->k3 U w:=by intro a7 ht h1 h2 h3 U w J X;subst ht;replace G:vY g3 a7=some i3:=G;unfold vY at G;exact hb4 a7 G h1 h2 h3 U w (J.sub _ rfl) X
   refine aT q8 (λs U w=>∃h4 h5 h6,FR 70 [] U [(0,(pP g0)),(4,.int .i64 C),(5,.slice h4 h5 h6),(7,.int .i64 z.1),(54,.int .u64 k2),(55,.int .u64 s.2)]/\SH r (blk g0 140 [.slice g4 g5 g6]::own (kI .i64) 2 h4 h5 h6 s.1::L) w) ⟨a4,a5,a6,J.sub _ rfl,X⟩ ?_;intro v9 r0 r1 G r2 r3 U w hLab;obtain⟨k4,r4⟩:=r0;replace G:iR z k2 k4 r4=some r1:=G;unfold iR at G
   try dsimp only at hLab
   obtain⟨h4,h5,h6,J,X⟩:=hLab;refine nz 1 J rfl λU J=>wp_seq_k λw0 r5=>aX J G rfl (λr6 G=>?_) λr6 G=>?_
   ·refine wp_skip (r5 _ _ ?_);refine wp_seq_k λw1 r7=>aA λw2 r8=>aD (xk 2 J rfl λU J=>?_);refine kV (d:=(kI .i64)) (e:=2) (ps:=#[(0,.int .i64 z.1)]) (cells:=[.int .i64 z.1]) (xs:=[z.1]) (λw=>by kernel_rfl) rfl ⟨[.int .i64 z.1],_,rfl,rfl,rfl⟩ J X (λw3 U w X J=>?_) rfl;obtain⟨r9,G⟩:=aC G;have hr:=X.rd 0 rfl;refine lI 2 mH bT J X hr.1 hr.2.1 r9 rfl (λs2 s3 s4 U w X J=>?_) rfl;refine x_m J rfl λU J=>wpList_nil (r8 _ _ ?_);refine r7 _ _ (aD ?_);refine x_l G J rfl λw4 _ U J G=>x_m J rfl λU J=>wpList_nil ?_;replace X:=X.drop 1 |>.pk 1;cases G;exact⟨_,r2 _ rfl,s2,s3,s4,J.sub _ rfl,X⟩
   cases G;exact wp_exit (q9 k4 (r3 _ rfl) h4 h5 h6 U w (J.sub _ rfl) X)
  cases G;exact wp_exit (p5 i5 k0 (i4 _ rfl) f9 g1 g2 a4 a5 a6 k1 U w (J.sub _ rfl) X)
 refine nz 2 J rfl λU J=>aX J G rfl (λs5 G=>?_) λs5 G=>?_
 ·refine nz 2 J rfl λU J=>aX J G rfl (λs6 G=>?_) λs6 G=>?_
  ·refine aD (xk 2 J rfl λU J=>?_);replace X:=aH (x:=N.2) ((SH.pure_ I X).pk 1);refine kG G bC6 J rfl (λ_ h=>aF9 h X (qz+0) hZ) (λi7 w X G=>?_) λi7 v U w hR J G=>?_
   ·cases G;exact hQp _ rfl _ _ J.defers X
   obtain⟨s7,s8,s9,rfl,X⟩:=hR;obtain⟨t0,t1,t3,X⟩:=aB (X.pk 1);obtain⟨t4,X⟩:=(X.pk 1).unpure;exact x_m J rfl λU J=>wpList_nil (hb1 i7.2.f0 i7.1 G t0 t1 t3 s7 s8 s9 t4 U w (J.sub _ rfl) X)
  replace X:=(SH.nil_own (d:=(kI .i64)) (e:=2) X).pk 1;exact wp_skip (hb1 N.2.f0 [] G a8 a9 b3 none 0 0 I U w (J.sub _ rfl) X)
 replace X:=(SH.nil_own (d:=(kI .i64)) (e:=2) X).pk 1;exact wp_skip (hb1 N.2.f0 [] G a8 a9 b3 none 0 0 I U w (J.sub _ rfl) X)
theorem xA {a0 a1 g0 g1 y} (G:rE a0 a1=some y) (X:SH r (obj140 Z wz g0 a0::obj158 g1 a1::L) w) (qz:Nat) (hZ:L[qz]?=some (zone Z wz)) :
  RetS Tryz.prog 110 #[.pointer (some ⟨g0,0,none⟩),(pP g1)] w aDd y (λy v w'=>v=.tuple #[]/\SH r (obj140 Z wz g0 y.1::obj158 g1 y.2::L) w') (λy w'=>SH r (obj140 Z wz g0 y.1::obj158 g1 y.2::L) w'):=by
 refine vI Tryz.func110 rfl Tryz.ntmps110 [(0,_),(1,_)] rfl (by simp) ?_;intro U J Qf hQ hQn hQp;unfold rE at G;obtain⟨N,S,Y,X⟩:=aB X;obtain⟨C,X⟩:=(X.pk 1).unpure;obtain⟨a3,a4,a5,X⟩:=aFw (X.pk 1);refine aD (x_m J rfl λU J=>?_);replace X:=aH (x:=a0) ((SH.pure_ C X).pk 3);refine kG G aWv J rfl (λ_ h=>aDk h X (qz+2) hZ) (λz w X G=>?_) λz v U w hR J G=>?_
 ·replace X:=(aFf (x:=a1) (X.pk 2 |>.pk 2)).pk 1;cases G;exact hQp _ rfl _ _ J.defers X
 obtain⟨a6,a7,a8,rfl,X⟩:=hR;obtain⟨a9,b3,b4,X⟩:=aB (X.pk 1);obtain⟨I,X⟩:=(X.pk 1).unpure;refine eH 2 aZz J X rfl (λU w X J=>?_) rfl;refine wpList_nil ?_;replace X:=(aFf (x:=z.1) ((aH (x:=z.2) ((SH.pure_ I X).pk 2)).pk 2 |>.pk 2)).drop 2 |>.pk 1;cases G;refine hQn _ rfl _ _ (aIg Tryz.results110 J ?_);exact⟨rfl,X⟩
theorem aAb {a0 C A0 n0 c0 z y} (G:qU a0 C=some y) (X:SH r (obj158 z C::L) w) (qz:Nat) (hZ:L[qz]?=some (zone Z wz)) (ha0:Imm Z wz (kI .u8) A0 n0 c0 a0) :
  Ret Tryz.prog 47 #[.slice A0 n0 c0,.func (.func 110) #[] #[.pointer (some ⟨z,0,none⟩)]] w λv w'=>v=.bool y.1/\SH r (obj158 z y.2::L) w':=by
 obtain⟨y',hy,G⟩:=bnd G;refine Ret.mono_ (aCd (R:=λv w'=>v=.bool y.1/\SH r (obj158 z y.2::L) w') bAj X (λg g4 w1 hS1=>?_)) (λv w' h=>h);replace hS1:=aH (x:=⟨a0⟩) (hS1.pk 1 |> λh=>(SH.pure_ ha0 (h.pk 1)).pk 1);replace hS1:=hS1.pk 1;replace hS1:=hS1.pk 2;replace hS1:=hS1.pk 2;rcases y' with y' | y'
 ·replace G:=wN G;cases G;left;refine Ret.mono_ (RetS.lf (xA hy hS1 (qz+1) hZ :)) ?_;rintro v w2 ⟨rfl,X⟩;replace X:=X.pk 2 |>.pk 1;obtain⟨A',n',c',X⟩:=aB X;have hQ:=SH.unpure (X.pk 1);clear X;obtain⟨hi,X⟩:=hQ;refine⟨_,A',n',c',X,λw3 h3=>⟨?_,h3⟩⟩;rw [← hi.ln]
 ·replace G:=wJ G;cases G;right;refine Calls.mono (RetS.rf (xA hy hS1 (qz+1) hZ :)) ?_;rintro e w2 ⟨rfl,X⟩;replace X:=X.pk 2 |>.drop 1;exact⟨rfl,_,X,λw3 h3=>⟨rfl,h3⟩⟩
theorem rC {a0 A0 n0 c0 y} (G:jB a0=some y) (X:SH r (L) w) (qz:Nat) (hZ:L[qz]?=some (zone Z wz)) (ha0:Imm Z wz (kI .u8) A0 n0 c0 a0) :
  Ret Tryz.prog 95 #[.slice A0 n0 c0] w λv w'=>∃ (B0:Option Addr) (m0:Nat) (d0:Nat),v=.tuple #[(.slice B0 m0 d0),(.int .i64 y.2)]/\SH r (own (kI .i64) 2 B0 m0 d0 y.1::L) w':=by
 refine enter Tryz.func95 rfl Tryz.ntmps95 [(0,_)] rfl (by simp) ?_;intro U J Qf hQ hQn;unfold jB at G;refine nz 2 J rfl λU J=>ws λa6 z=>eY (cs:=[.slice none 0 0]) bAd J X (λC U w X J=>?_) rfl;refine wn (z _ _ ?_);refine wp_seq_k λa7 I=>ws λa8 N=>xk 1 J rfl λU J=>x_v J (gO rfl (lU (vals:=#[]) J rfl) (lU (vals:=#[.pointer (some ⟨C,0,none⟩)]) J rfl)) rfl λU J=>?_;replace X:=aFf (x:=[]) ((SH.nil_own (d:=(kI .i64)) (e:=2) X).pk 1);obtain⟨a9,S,G⟩:=bnd G;refine x_c aTl J rfl (aAb S X (qz+0) hZ ha0 :) λv U w hR J=>?_;obtain⟨rfl,X⟩:=hR;obtain⟨Y,a1,a3,X⟩:=aFw X;refine nk 1 J rfl λU J=>N _ _ (aX J G rfl (λa4 G=>?_) λa4 G=>?_)
 ·refine nz 2 J rfl λU J=>?_;replace X:=(SH.nil_own (d:=(kI .i64)) (e:=2) X).drop 1 |>.drop 1;cases G;refine wp_ret (hQ _ _ ?_);exact lv2 Tryz.results95 J rfl rfl ⟨none,0,0,rfl,X⟩
 refine wp_skip (I _ _ ?_);refine ws λb3 a5=>aM bT (X.cell 0 rfl 0 _ rfl) J (λU J=>?_) rfl;refine nk 2 J rfl λU J=>?_;replace X:=X.drop 0;cases G;refine a5 _ _ (wp_ret ?_);refine hQ _ _ (lv2 Tryz.results95 J rfl rfl ?_);exact⟨Y,a1,a3,rfl,X⟩
end
noncomputable section
set_option linter.unusedSimpArgs false
def aA1 (a0:Nat):Option (Bool) :=
  some (!feq a0 a0)
def vU (a0:Nat):Option (Nat) :=
  (aA1 a0).bind λz=>(if z=true then (some ((9221120237041090560:Int).toNat)) else (some a0))
def xT (a0:Nat):Option (Int) :=
  (vU a0).bind λz=>(some (z:Int))
def aEi (a0:Int):Option (Nat) :=
  (vU a0.toNat).bind λz=>(some z)
def sS (z:(List Nat)):Option ((List Nat)×Int) :=
  some (z,0)
def qT (z:(List Nat)):Option ((List Nat)×Int) :=
  sS z
def dL (I:((List Int)×Int)) (z:(List Nat)) (C:Int):Option (((List Nat)×Int)⊕(((List Nat))⊕((List Nat)×Int))) :=
  if (decide (C<(I.1.length:Int)))=true then ((at_ I.1 C).bind λN=>(ltt (IntKind.u64.wrap N) λJ=>((aEi J).bind λG=>((xT G).bind λS=>(if (S != J)=true then (some (.inr (.inr ([],3)))) else (chk (z.length+[G].length<=140737488355328 / 8) (ltt (IntKind.i64.wrap (C+1)) λU=>(some (.inl (z++[G],U)))))))))) else (some (.inr (.inl (z))))
def oW (a0:(List Int)):Option ((List Nat)×Int) :=
  (jB a0).bind λz=>(if (z.2 != 0)=true then (some ([],z.2)) else ((loop (λs=>dL z s.1 s.2) ([],0)).bind λt=>match t with | (.inl t)=>qT t | (.inr t)=>some t))
end
section
variable {r:World} {L:List HP} {w:World} {Z:Nat->Prop} {wz:World}
theorem aKs {a0 y} (G:aA1 a0=some y) (X:SH r (L) w) :
  Ret Tryz.prog 145 #[.float .f64 a0] w λv w'=>v=.bool y/\SH r (L) w':=by
 refine enter Tryz.func145 rfl Tryz.ntmps145 [(0,_)] rfl (by simp) ?_;intro U J Qf hQ hQn;unfold aA1 at G;refine nz 1 J rfl λU J=>ws λC z=>xk 2 J rfl λU J=>x_v J (bB1 rfl (J.ev rfl) (J.ev rfl)) rfl λU J=>x_m J rfl λU J=>wn (z _ _ ?_);cases G;refine wp_ret (hQ _ _ ?_);exact lv Tryz.results145 J rfl ⟨rfl,X⟩
theorem aEh {a0 y} (G:vU a0=some y) (X:SH r (L) w) :
  Ret Tryz.prog 131 #[.float .f64 a0] w λv w'=>v=.float .f64 y/\SH r (L) w':=by
 refine enter Tryz.func131 rfl Tryz.ntmps131 [(0,_)] rfl (by simp) ?_;intro U J Qf hQ hQn;unfold vU at G;refine nz 1 J rfl λU J=>wp_seq_k λY z=>ws λa1 C=>xk 1 J rfl λU J=>?_;obtain⟨a3,I,G⟩:=bnd G;refine x_c bCk J rfl (aKs I X :) λv U w hR J=>?_;obtain⟨rfl,X⟩:=hR;refine wn (C _ _ ?_);refine aX J G rfl (λN G=>?_) λN G=>?_
 ·refine ws λa4 S=>x_v J (aSr (aW2 _) rfl (evs J rfl)) rfl λU J=>x_m J rfl λU J=>wn (S _ _ ?_);cases G;refine wp_ret (hQ _ _ ?_);exact lv Tryz.results131 J rfl ⟨rfl,X⟩
 refine wp_skip (z _ _ ?_);refine nz 2 J rfl λU J=>?_;cases G;refine wp_ret (hQ _ _ ?_);exact lv Tryz.results131 J rfl ⟨rfl,X⟩
theorem aF5 {a0 y} (G:xT a0=some y) (X:SH r (L) w) :
  Ret Tryz.prog 115 #[.float .f64 a0] w λv w'=>v=.int .u64 y/\SH r (L) w':=by
 refine enter Tryz.func115 rfl Tryz.ntmps115 [(0,_)] rfl (by simp) ?_;intro U J Qf hQ hQn;unfold xT at G;refine nz 1 J rfl λU J=>ws λI z=>xk 1 J rfl λU J=>?_;obtain⟨N,C,G⟩:=bnd G;refine x_c aWy J rfl (aEh C X :) λv U w hR J=>?_;obtain⟨rfl,X⟩:=hR;refine x_v J (aSr (bBr _) rfl (evs J rfl)) rfl λU J=>x_m J rfl λU J=>wn (z _ _ ?_);cases G;refine wp_ret (hQ _ _ ?_);exact lv Tryz.results115 J rfl ⟨rfl,X⟩
theorem aQq {a0 y} (G:aEi a0=some y) (X:SH r (L) w) :
  Ret Tryz.prog 114 #[.int .u64 a0] w λv w'=>v=.float .f64 y/\SH r (L) w':=by
 refine enter Tryz.func114 rfl Tryz.ntmps114 [(0,_)] rfl (by simp) ?_;intro U J Qf hQ hQn;unfold aEi at G;refine nz 1 J rfl λU J=>ws λI z=>xk 1 J rfl λU J=>x_v J (aSr (aW2 _) rfl (evs J rfl)) rfl λU J=>?_;obtain⟨N,C,G⟩:=bnd G;refine x_c aWy J rfl (aEh C X :) λv U w hR J=>?_;obtain⟨rfl,X⟩:=hR;refine x_m J rfl λU J=>wn (z _ _ ?_);cases G;refine wp_ret (hQ _ _ ?_);exact lv Tryz.results114 J rfl ⟨rfl,X⟩
theorem aDx {a0 A0 n0 c0 y} (G:oW a0=some y) (X:SH r (L) w) (qz:Nat) (hZ:L[qz]?=some (zone Z wz)) (ha0:Imm Z wz (kI .u8) A0 n0 c0 a0) :
  Ret Tryz.prog 97 #[.slice A0 n0 c0] w λv w'=>∃ (B0:Option Addr) (m0:Nat) (d0:Nat),v=.tuple #[(.slice B0 m0 d0),(.int .i64 y.2)]/\SH r (own kF 59 B0 m0 d0 y.1::L) w':=by
 refine enter Tryz.func97 rfl Tryz.ntmps97 [(0,_)] rfl (by simp) ?_;intro U J Qf hQ hQn;unfold oW at G;refine nz 2 J rfl λU J=>ws λf8 b9=>xk 1 J rfl λU J=>?_;obtain⟨a7,c4,G⟩:=bnd G;refine x_c aV0 J rfl (rC c4 X (qz+0) hZ ha0 :) λv U w hR J=>?_;obtain⟨a9,b3,b4,rfl,X⟩:=hR;refine nk 5 J rfl λU J=>b9 _ _ (wp_seq_k λf9 c5=>?_);refine nz 2 J rfl λU J=>aX J G rfl (λc6 G=>?_) λc6 G=>?_
 ·refine nz 3 J rfl λU J=>?_;replace X:=(SH.nil_own (d:=kF) (e:=59) X).drop 1;cases G;refine wp_ret (hQ _ _ ?_);exact lv2 Tryz.results97 J rfl rfl ⟨none,0,0,rfl,X⟩
 refine wp_skip (c5 _ _ ?_);refine nz 1 J rfl λU J=>wp_seq_k λg0 c7=>ws λg1 c8=>xk 1 J rfl λU J=>aW bT (X.rd 0 rfl).2.1 J (λU J=>?_) rfl;refine x_m J rfl λU J=>wn (c8 _ _ ?_);refine aA λb5 c9=>?_;have hb1:∀a8,sS a8=some y->∀C I N U w,FR 38 [] U [(6,.slice C I N)]->SH r (own kF 59 C I N a8::L) w->b5 U w:=by intro a8 G C I N U w J X;unfold sS at G;refine c9 _ _ (c7 _ _ ?_);refine nz 3 J rfl λU J=>?_;cases G;refine wp_ret (hQ _ _ ?_);exact lv2 Tryz.results97 J rfl rfl ⟨C,I,N,rfl,X⟩
 obtain⟨d1,d2,G⟩:=bnd G;have d3:=G;have d4:∀z,(.inl (z))=d1->∀S Y a1 U w,FR 38 [] U [(6,.slice S Y a1)]->SH r (own kF 59 S Y a1 z::L) w->b5 U w:=by intro z ht S Y a1 U w J X;subst ht;replace G:qT z=some y:=G;unfold qT at G;exact hb1 z G S Y a1 U w (J.sub _ rfl) X
 replace X:=SH.nil_own (d:=kF) (e:=59) X;refine aT d2 (λs U w=>∃a3 a4 a5,FR 38 [] U [(6,.slice a3 a4 a5),(18,.slice a9 b3 b4),(19,.int .i64 (a7.1.length:Int)),(20,.int .i64 s.2)]/\SH r (own kF 59 a3 a4 a5 s.1::own (kI .i64) 2 a9 b3 b4 a7.1::L) w) ⟨none,0,0,J.sub _ rfl,X⟩ ?_;intro g2 d5 d6 G d7 b6 U w hLab;obtain⟨b7,d8⟩:=d5;replace G:dL a7 b7 d8=some d6:=G;unfold dL at G
 try dsimp only at hLab
 obtain⟨a3,a4,a5,J,X⟩:=hLab;refine nz 1 J rfl λU J=>wp_seq_k λg3 d9=>aX J G rfl (λe1 G=>?_) λe1 G=>?_
 ·refine wp_skip (d9 _ _ ?_);refine wp_seq_k λg4 e2=>aA λg5 e3=>ws λg6 e4=>?_;obtain⟨g7,b8,G⟩:=bnd G;refine fK bT sz2 (X.rd 1 rfl) b8 J (λU J=>?_) rfl;obtain⟨cs,hV,e5⟩:=el (X.rd 1 rfl) b8;obtain rfl:=hV;refine aM uu2 (e5 0 _ rfl) J (λU J=>?_) rfl;refine x_m J rfl λU J=>wn (e4 _ _ ?_);refine ws λg8 e6=>xk 1 J rfl λU J=>eP G J (aQ uu2 bS rfl (J.ev rfl)) rfl λe7 e8 U J G=>?_;obtain⟨a6,e9,G⟩:=bnd G;refine x_c bBn J rfl (aQq e9 X :) λv U w hR J=>?_;obtain⟨rfl,X⟩:=hR;refine x_m J rfl λU J=>wn (e6 _ _ ?_);refine wp_seq_k λg9 f0=>ws λh1 f1=>xk 1 J rfl λU J=>?_;obtain⟨h2,f2,G⟩:=bnd G;refine x_c aW6 J rfl (aF5 f2 X :) λv U w hR J=>?_;obtain⟨rfl,X⟩:=hR;refine x_m J rfl λU J=>x_v (v:=.int .u64 e7) J (cO e8 (aQ uu2 bS rfl (J.ev rfl))) rfl λU J=>nk 1 J rfl λU J=>f1 _ _ (aX J G rfl (λf3 G=>?_) λf3 G=>?_)
  ·refine nz 2 J rfl λU J=>?_;replace X:=(SH.nil_own (d:=kF) (e:=59) X).drop 1 |>.drop 1;cases G;refine wp_ret ?_;have ht:=b6 _ rfl;subst ht;replace G:=d3;replace G:some ([],3)=some y:=G;cases G;refine hQ _ _ (lv2 Tryz.results97 J rfl rfl ?_);exact⟨none,0,0,rfl,X⟩
  refine wp_skip (f0 _ _ ?_);refine aD (xk 2 J rfl λU J=>?_);refine kV (d:=kF) (e:=59) (ps:=#[(0,.float .f64 a6)]) (cells:=[.float .f64 a6]) (xs:=[a6]) (λw=>by kernel_rfl) rfl ⟨[.float .f64 a6],_,rfl,rfl,rfl⟩ J X (λh3 U w X J=>?_) rfl;obtain⟨f4,G⟩:=aC G;have hr:=X.rd 0 rfl;refine lI 1 aO1 aD4 J X hr.1 hr.2.1 f4 rfl (λf5 f6 f7 U w X J=>?_) rfl;refine x_m J rfl λU J=>wpList_nil (e3 _ _ ?_);refine e2 _ _ (aD ?_);refine x_l G J rfl λh4 _ U J G=>x_m J rfl λU J=>wpList_nil ?_;replace X:=X.drop 1;cases G;exact⟨_,d7 _ rfl,f5,f6,f7,J.sub _ rfl,X⟩
 replace X:=X.drop 1;cases G;exact wp_exit (d4 b7 (b6 _ rfl) a3 a4 a5 U w (J.sub _ rfl) X)
end
noncomputable section
set_option linter.unusedSimpArgs false
def tF (z:(List Int)):Option ((List Int)) :=
  (nF z).bind λC=>(some C)
def rA (z:(List Int)):Option ((List Int)) :=
  tF z
def jC (a0:(List Nat)) (z:(List Int)) (C:Int):Option (((List Int)×Int)⊕(((List Int)))) :=
  if (decide (C<(a0.length:Int)))=true then ((at_ a0 C).bind λI=>((xT I).bind λJ=>(ltt (IntKind.i64.wrap J) λG=>(chk (z.length+[G].length<=140737488355328 / 8) (ltt (IntKind.i64.wrap (C+1)) λN=>(some (.inl (z++[G],N)))))))) else (some (.inr (z)))
def uR (a0:(List Nat)):Option ((List Int)) :=
  (loop (λs=>jC a0 s.1 s.2) ([],0)).bind λt=>rA t
end
section
variable {r:World} {L:List HP} {w:World} {Z:Nat->Prop} {wz:World}
theorem aHw {a0 A0 n0 c0 y} (G:uR a0=some y) (X:SH r (L) w) (ha0:RdL L kF A0 n0 c0 a0) :
  Ret Tryz.prog 105 #[.slice A0 n0 c0] w λv w'=>∃ (B0:Option Addr) (m0:Nat) (d0:Nat),v=.slice B0 m0 d0/\SH r (own (kI .u8) 5 B0 m0 d0 y::L) w':=by
 refine enter Tryz.func105 rfl Tryz.ntmps105 [(0,_)] rfl (by simp) ?_;intro U J Qf hQ hQn;unfold uR at G;refine nz 1 J rfl λU J=>nz 1 J rfl λU J=>wp_seq_k λe7 b4=>ws λe8 b5=>xk 1 J rfl λU J=>aW aD4 (X.rdl 0 ha0 rfl).2.1 J (λU J=>?_) rfl;refine x_m J rfl λU J=>wn (b5 _ _ ?_);refine aA λa8 b6=>?_;have hb1:∀a4,tF a4=some y->∀a5 a6 a7 U w,FR 21 [] U [(3,.slice a5 a6 a7)]->SH r (own (kI .i64) 2 a5 a6 a7 a4::L) w->a8 U w:=by intro a4 G a5 a6 a7 U w J X;unfold tF at G;refine b6 _ _ (b4 _ _ ?_);refine ws λe9 b7=>xk 1 J rfl λU J=>?_;obtain⟨f0,b8,G⟩:=bnd G;refine x_c aM1 J rfl (sW b8 X (RdL.own 0 rfl (X.dropN 0)) :) λv U w hR J=>?_;obtain⟨b9,c4,c5,rfl,X⟩:=hR;refine x_m J rfl λU J=>wn (b7 _ _ ?_);replace X:=X.drop 1;cases G;refine wp_ret (hQ _ _ ?_);exact lv Tryz.results105 J rfl ⟨b9,c4,c5,rfl,X⟩
 obtain⟨c6,c7,G⟩:=bnd G;have c8:∀z,(z)=c6->∀C I N U w,FR 21 [] U [(3,.slice C I N)]->SH r (own (kI .i64) 2 C I N z::L) w->a8 U w:=by intro z ht C I N U w J X;subst ht;replace G:rA z=some y:=G;unfold rA at G;exact hb1 z G C I N U w (J.sub _ rfl) X
 replace X:=SH.nil_own (d:=(kI .i64)) (e:=2) X;refine aT c7 (λs U w=>∃S Y a1,FR 21 [] U [(3,.slice S Y a1),(6,.slice A0 n0 c0),(7,.int .i64 (a0.length:Int)),(8,.int .i64 s.2)]/\SH r (own (kI .i64) 2 S Y a1 s.1::L) w) ⟨none,0,0,J.sub _ rfl,X⟩ ?_;intro f1 c9 d1 G d2 d3 U w hLab;obtain⟨a9,d4⟩:=c9;replace G:jC a0 a9 d4=some d1:=G;unfold jC at G
 try dsimp only at hLab
 obtain⟨S,Y,a1,J,X⟩:=hLab;refine nz 1 J rfl λU J=>wp_seq_k λf2 d5=>aX J G rfl (λd6 G=>?_) λd6 G=>?_
 ·refine wp_skip (d5 _ _ ?_);refine wp_seq_k λf3 d7=>aA λf4 d8=>ws λf5 d9=>?_;obtain⟨f6,b3,G⟩:=bnd G;refine fK aD4 aY8 (X.rdl 1 ha0 rfl) b3 J (λU J=>?_) rfl;obtain⟨cs,hV,e1⟩:=el (X.rdl 1 ha0 rfl) b3;obtain rfl:=hV;refine aM aQx (e1 0 _ rfl) J (λU J=>?_) rfl;refine x_m J rfl λU J=>wn (d9 _ _ ?_);refine aD (xk 2 J rfl λU J=>?_);obtain⟨f7,e2,G⟩:=bnd G;refine x_c aW6 J rfl (aF5 e2 X :) λv U w hR J=>?_;obtain⟨rfl,X⟩:=hR;refine eP G J (aQ bS uu2 rfl (J.ev rfl)) rfl λa3 _ U J G=>kV (d:=(kI .i64)) (e:=2) (ps:=#[(0,.int .i64 a3)]) (cells:=[.int .i64 a3]) (xs:=[a3]) (λw=>by kernel_rfl) rfl ⟨[.int .i64 a3],_,rfl,rfl,rfl⟩ J X (λf8 U w X J=>?_) rfl;obtain⟨e3,G⟩:=aC G;have hr:=X.rd 0 rfl;refine lI 1 mH bT J X hr.1 hr.2.1 e3 rfl (λe4 e5 e6 U w X J=>?_) rfl;refine x_m J rfl λU J=>wpList_nil (d8 _ _ ?_);refine d7 _ _ (aD ?_);refine x_l G J rfl λf9 _ U J G=>x_m J rfl λU J=>wpList_nil ?_;replace X:=X.drop 1;cases G;exact⟨_,d2 _ rfl,e4,e5,e6,J.sub _ rfl,X⟩
 cases G;exact wp_exit (c8 a9 (d3 _ rfl) S Y a1 U w (J.sub _ rfl) X)
end
noncomputable section
set_option linter.unusedSimpArgs false
def mY:Option (Int) :=
  some (-1)
def lN:Option (Int) :=
  mY
def dP (a0:(List Bool)) (a1:Bool) (z:Int):Option ((Int)⊕((Unit)⊕(Int))) :=
  if (decide (z<(a0.length:Int)))=true then ((at_ a0 z).bind λC=>(if (a1==C)=true then (some (.inr (.inr z))) else (ltt (IntKind.i64.wrap (z+1)) λG=>(some (.inl (G)))))) else (some (.inr (.inl ())))
def lR (a0:(List Bool)) (a1:Bool):Option (Int) :=
  (loop (λs=>dP a0 a1 s) (0)).bind λt=>match t with | (.inl t)=>lN | (.inr t)=>some t
def gK (a0:(List Bool)) (a1:Bool):Option (Bool) :=
  (lR a0 a1).bind λz=>(some (decide (0<=z)))
def mO (G:(List Int)) (C:(List (List UInt8))) (I:(List Bool)):Option ((S140×(List (List UInt8)))⊕(S140×(List (List UInt8)))) :=
  (gK I false).bind λJ=>((aI (⟨G⟩:S140) (!J)).bind λz=>(fL z (λz=>(some (.inl (z,C)))) (λz=>(some (.inr (z,C))))))
def kZ (z:(List Int)) (C:(List (List UInt8))) (G:(List Bool)):Option ((S140×(List (List UInt8)))⊕(S140×(List (List UInt8)))) :=
  mO z C G
def jM (J:(List (List UInt8))) (C:(List (List UInt8))) (G:(List Bool)) (N:Int) (z:Int) (S:(List Int)):Option (((List Int)×(List (List UInt8))×(List Bool)×Int)⊕(((List Int)×(List (List UInt8))×(List Bool))⊕((S140×(List (List UInt8)))⊕(S140×(List (List UInt8)))))) :=
  (at_ G z).bind λX=>((at_ J z).bind λI=>(chk (C.length+[I].length<=140737488355328 / 16) (ltt (IntKind.i64.wrap (N+1)) λU=>(some (.inl (S,C++[I],G.set z.toNat true,U))))))
def cA (N:(List (List UInt8))) (X:((List Int)×S140)) (S:(List Int)) (z:(List (List UInt8))) (U:(List Bool)) (I:Int):Option (((List Int)×(List (List UInt8))×(List Bool)×Int)⊕(((List Int)×(List (List UInt8))×(List Bool))⊕((S140×(List (List UInt8)))⊕(S140×(List (List UInt8)))))) :=
  if (decide (I<(X.1.length:Int)))=true then ((at_ X.1 I).bind λJ=>(if (decide (0<=J))=true then ((aI (⟨S⟩:S140) (decide (J<(N.length:Int)))).bind λC=>(fL C (λC=>(jM N z U I J C.f0)) (λC=>(some (.inr (.inr (.inr (C,z)))))))) else ((aI (⟨S⟩:S140) false).bind λG=>(fL G (λG=>(jM N z U I J G.f0)) (λG=>(some (.inr (.inr (.inr (G,z)))))))))) else (some (.inr (.inl (S,z,U))))
def mP (a1:(List (List UInt8))) (G:(List Int)) (C:(List (List UInt8))):Option ((S140×(List (List UInt8)))⊕(S140×(List (List UInt8)))) :=
  chk (0<=(C.length:Int)/\(1:Int) * (C.length:Int)<=140737488355328) ((tY (⟨G⟩:S140)).bind λz=>(fL z (λz=>((loop (λs=>cA C z s.1 s.2.1 s.2.2.1 s.2.2.2) (z.2.f0,a1,List.replicate (C.length:Int).toNat (false:Bool),0)).bind λt=>match t with | (.inl t)=>kZ t.1 t.2.1 t.2.2 | (.inr t)=>some t)) (λz=>(some (.inr (z,a1))))))
def lB (a1:(List (List UInt8))) (z:(List Int)) (C:(List (List UInt8))):Option ((S140×(List (List UInt8)))⊕(S140×(List (List UInt8)))) :=
  mP a1 z C
def gV (z:(List (List UInt8))) (G:Int) (C:((List UInt8)×S140)) (I:(List Int)):Option (((List Int)×(List (List UInt8))×Int)⊕(((List Int)×(List (List UInt8)))⊕((S140×(List (List UInt8)))⊕(S140×(List (List UInt8)))))) :=
  chk (z.length+[C.1].length<=140737488355328 / 16) (ltt (IntKind.u64.wrap (G+1)) λJ=>(some (.inl (I,z++[C.1],J))))
def cZ (a1:(List (List UInt8))) (S:(Int×S140)) (N:(List Int)) (C:(List (List UInt8))) (J:Int):Option (((List Int)×(List (List UInt8))×Int)⊕(((List Int)×(List (List UInt8)))⊕((S140×(List (List UInt8)))⊕(S140×(List (List UInt8)))))) :=
  if (decide (J<S.1))=true then ((eU (⟨N⟩:S140) 32).bind λz=>(fL z (λz=>(if ((C.length:Int)==0)=true then ((aI z.2 true).bind λG=>(fL G (λG=>(gV C J z G.f0)) (λG=>(some (.inr (.inr (.inr (G,a1)))))))) else (ltt (IntKind.i64.wrap ((C.length:Int) - 1)) λU=>((at_ C U).bind λX=>((aI z.2 (Op.bytesLess X z.1)).bind λI=>(fL I (λI=>(gV C J z I.f0)) (λI=>(some (.inr (.inr (.inr (I,a1)))))))))))) (λz=>(some (.inr (.inr (.inr (z,a1)))))))) else (some (.inr (.inl (N,C))))
def kC (a0:S140) (a1:(List (List UInt8))):Option ((S140×(List (List UInt8)))⊕(S140×(List (List UInt8)))) :=
  (bC a0 4096).bind λz=>(fL z (λz=>((loop (λs=>cZ a1 z s.1 s.2.1 s.2.2) (z.2.f0,[],0)).bind λt=>match t with | (.inl t)=>lB a1 t.1 t.2 | (.inr t)=>some t)) (λz=>(some (.inr (z,a1)))))
def pX (a0:(List Int)) (z:(List (List UInt8))):Option (Bool×(List (List UInt8))) :=
  (kC (⟨a0⟩:S140) z).bind λy=>(fL y (λy=>some ((((y.1.f0.length:Int)==0),y.2))) (λy=>some ((false,y.2))))
def oZ (a0:(List Int)):Option ((List (List UInt8))×Int) :=
  (pX a0 []).bind λz=>(if (!z.1)=true then (some ([],3)) else (some (z.2,0)))
end
section
variable {r:World} {L:List HP} {w:World} {Z:Nat->Prop} {wz:World}
theorem zN {a0 a1 A0 n0 c0 y} (G:lR a0 a1=some y) (X:SH r (L) w) (ha0:RdL L kB A0 n0 c0 a0) :
  Ret Tryz.prog 130 #[.slice A0 n0 c0,.bool a1] w λv w'=>v=.int .i64 y/\SH r (L) w':=by
 refine enter Tryz.func130 rfl Tryz.ntmps130 [(0,_),(1,_)] rfl (by simp) ?_;intro U J Qf hQ hQn;unfold lR at G;refine nz 1 J rfl λU J=>wp_seq_k λc5 S=>ws λc6 Y=>xk 1 J rfl λU J=>aW aPu (X.rdl 0 ha0 rfl).2.1 J (λU J=>?_) rfl;refine x_m J rfl λU J=>wn (Y _ _ ?_);refine aA λz a3=>?_;have hb1:mY=some y->∀U w,FR 19 [] U []->SH r (L) w->z U w:=by intro G U w J X;unfold mY at G;refine a3 _ _ (S _ _ ?_);refine nz 1 J rfl λU J=>?_;cases G;refine wp_ret (hQ _ _ ?_);exact lv Tryz.results130 J rfl ⟨rfl,X⟩
 obtain⟨a4,a5,G⟩:=bnd G;have a6:=G;have a7:(.inl ())=a4->∀U w,FR 19 [] U []->SH r (L) w->z U w:=by intro ht U w J X;subst ht;replace G:lN=some y:=G;unfold lN at G;exact hb1 G U w (J.sub _ rfl) X
 refine aT a5 (λs U w=>FR 19 [] U [(0,.slice A0 n0 c0),(1,.bool a1),(7,.int .i64 (a0.length:Int)),(8,.int .i64 s)]/\SH r (L) w) ⟨J.sub _ rfl,X⟩ ?_;intro c7 a8 a9 G b3 C U w hLab;obtain⟨I,rfl⟩:∃ q,q=a8:=⟨_,rfl⟩;replace G:dP a0 a1 I=some a9:=G;unfold dP at G
 try dsimp only at hLab
 obtain⟨J,X⟩:=hLab;refine nz 1 J rfl λU J=>wp_seq_k λc8 b4=>aX J G rfl (λb5 G=>?_) λb5 G=>?_
 ·refine wp_skip (b4 _ _ ?_);refine wp_seq_k λc9 b6=>aA λd0 b7=>nz 2 J rfl λU J=>ws λd1 b8=>xk 3 J rfl λU J=>?_;obtain⟨d2,N,G⟩:=bnd G;refine fK aPu sz4 (X.rdl 0 ha0 rfl) N J (λU J=>?_) rfl;obtain⟨cs,hV,b9⟩:=el (X.rdl 0 ha0 rfl) N;obtain rfl:=hV;refine aM uu4 (b9 0 _ rfl) J (λU J=>?_) rfl;refine x_v J (bB7 uu4 rfl (J.ev rfl) (J.ev rfl)) rfl λU J=>wn (b8 _ _ ?_);refine aX J G rfl (λc4 G=>?_) λc4 G=>?_
  ·refine nz 2 J rfl λU J=>?_;cases G;refine wp_ret ?_;have ht:=C _ rfl;subst ht;replace G:=a6;replace G:some I=some y:=G;cases G;refine hQ _ _ (lv Tryz.results130 J rfl ?_);exact⟨rfl,X⟩
  refine wp_skip (b7 _ _ ?_);refine b6 _ _ (aD ?_);refine x_l G J rfl λd3 _ U J G=>x_m J rfl λU J=>wpList_nil ?_;cases G;exact⟨_,b3 _ rfl,J.sub _ rfl,X⟩
 cases G;exact wp_exit (a7 (C _ rfl) U w (J.sub _ rfl) X)
theorem xE {a0 a1 A0 n0 c0 y} (G:gK a0 a1=some y) (X:SH r (L) w) (ha0:RdL L kB A0 n0 c0 a0) :
  Ret Tryz.prog 113 #[.slice A0 n0 c0,.bool a1] w λv w'=>v=.bool y/\SH r (L) w':=by
 refine enter Tryz.func113 rfl Tryz.ntmps113 [(0,_),(1,_)] rfl (by simp) ?_;intro U J Qf hQ hQn;unfold gK at G;refine nz 1 J rfl λU J=>ws λI z=>xk 2 J rfl λU J=>?_;obtain⟨N,C,G⟩:=bnd G;refine x_c bCb J rfl (zN C X (RdL.sfx 0 rfl ha0) :) λv U w hR J=>?_;obtain⟨rfl,X⟩:=hR;refine nk 2 J rfl λU J=>?_;cases G;refine z _ _ (wp_ret ?_);refine hQ _ _ (lv Tryz.results113 J rfl ?_);exact⟨rfl,X⟩
theorem wE {a0 a1 g0 g1 y} (G:kC a0 a1=some y) (X:SH r (obj140 Z wz g0 a0::obj53 g1 a1::L) w) (qz:Nat) (hZ:L[qz]?=some (zone Z wz)) :
  RetS Tryz.prog 112 #[.pointer (some ⟨g0,0,none⟩),(pP g1)] w aDd y (λy v w'=>v=.tuple #[]/\SH r (obj140 Z wz g0 y.1::obj53 g1 y.2::L) w') (λy w'=>SH r (obj140 Z wz g0 y.1::obj53 g1 y.2::L) w'):=by
 refine vI Tryz.func112 rfl Tryz.ntmps112 [(0,_),(1,_)] rfl (by simp) ?_;intro U J Qf hQ hQn hQp;unfold kC at G;obtain⟨s7,s8,s9,X⟩:=aB X;obtain⟨k8,X⟩:=(X.pk 1).unpure;obtain⟨N,S,Y,X⟩:=aHb (X.pk 1);refine nz 1 J rfl λU J=>wp_seq_k λt0 k9=>ws λt1 l0=>xk 1 J rfl λU J=>?_;replace X:=aH (x:=a0) ((SH.pure_ k8 X).pk 3);refine kG G xP J rfl (λ_ h=>aS h X (qz+2) hZ) (λc9 w X G=>?_) λc9 v U w hR J G=>?_
 ·replace X:=(sY (x:=a1) (X.pk 2 |>.pk 2)).pk 1;cases G;exact hQp _ rfl _ _ J.defers X
 obtain⟨rfl,X⟩:=hR;obtain⟨l1,l2,l3,X⟩:=aB X;obtain⟨l4,X⟩:=(X.pk 1).unpure;refine x_m J rfl λU J=>wn (l0 _ _ ?_);refine aA λj1 l5=>?_;have hb1:∀d0 z,mP a1 d0 z=some y->∀g8 g9 h1 a3 a4 a5 (j2:Imm Z wz (kI .u8) g8 g9 h1 d0) U w,FR 70 [] U [(0,(pP g0)),(1,(pP g1)),(3,.slice a3 a4 a5)]->SH r (blk g0 140 [.slice g8 g9 h1]::blk g1 53 [.slice N S Y]::own kS 9 N S Y a1::own kS 9 a3 a4 a5 z::L) w->j1 U w:=by
  intro d0 z G g8 g9 h1 a3 a4 a5 j2 U w J X;unfold mP at G;refine l5 _ _ (k9 _ _ ?_);refine ws λt3 l6=>xk 1 J rfl λU J=>aW qF (X.rd 3 rfl).2.1 J (λU J=>?_) rfl;obtain⟨l7,G⟩:=aC G;refine aOv (d:=kB) (bytes:=1) false bEh rfl aPu l7 J X (λa6 U w X J=>?_) rfl;refine x_m J rfl λU J=>wn (l6 _ _ ?_);refine wp_seq_k λt4 l8=>ws λt5 l9=>xk 1 J rfl λU J=>?_;replace X:=(SH.pure_ j2 X).pk 2;replace X:=aH (x:=(⟨d0⟩:S140)) X;refine kG G aWv J rfl (λ_ h=>aDk h X (qz+4) hZ) (λb4 w X G=>?_) λb4 v U w hR J G=>?_
  ·replace X:=(sY (x:=a1) (X.pk 3 |>.pk 3)).drop 2 |>.drop 2 |>.pk 1;cases G;exact hQp _ rfl _ _ J.defers X
  obtain⟨d1,d2,d3,rfl,X⟩:=hR;obtain⟨m0,m1,m2,X⟩:=aB (X.pk 1);obtain⟨m3,X⟩:=(X.pk 1).unpure;refine aW bT (X.rd 1 rfl).2.1 J (λU J=>?_) rfl;refine x_m J rfl λU J=>wn (l9 _ _ ?_);refine aA λj3 m4=>?_;have hb2:∀d4 b8 h2,mO d4 b8 h2=some y->∀h3 h4 h5 h6 h7 h8 (j4:Imm Z wz (kI .u8) h3 h4 h5 d4) U w,FR 70 [] U [(0,(pP g0)),(1,(pP g1)),(5,.slice (some ⟨a6,0,none⟩) ((z.length:Int).toNat) ((z.length:Int).toNat))]->SH r (blk g0 140 [.slice h3 h4 h5]::blk g1 53 [.slice h6 h7 h8]::own kS 9 h6 h7 h8 b8::own kB 4 (some ⟨a6,0,none⟩) ((z.length:Int).toNat) ((z.length:Int).toNat) h2::L) w->j3 U w:=by
   intro d4 b8 h2 G h3 h4 h5 h6 h7 h8 j4 U w J X;unfold mO at G;refine m4 _ _ (l8 _ _ ?_);refine aD (xk 2 J rfl λU J=>?_);obtain⟨t6,m5,G⟩:=bnd G;refine x_c bCg J rfl (xE m5 X (RdL.own 3 rfl (X.dropN 0)) :) λv U w hR J=>?_;obtain⟨rfl,X⟩:=hR;refine xk 1 J rfl λU J=>?_;replace X:=(SH.pure_ j4 X).pk 1;replace X:=aH (x:=(⟨d4⟩:S140)) X;refine kG G rP J rfl (λ_ h=>aE h X (qz+3) hZ) (λm6 w X G=>?_) λm6 v U w hR J G=>?_
   ·replace X:=(sY (x:=b8) (X.pk 2 |>.pk 2)).drop 2 |>.pk 1;cases G;exact hQp _ rfl _ _ J.defers X
   obtain⟨rfl,X⟩:=hR;refine wpList_nil ?_;replace X:=(sY (x:=b8) (X.pk 2 |>.pk 2)).drop 2 |>.pk 1;cases G;refine hQn _ rfl _ _ (aIg Tryz.results112 J ?_);exact⟨rfl,X⟩
  obtain⟨m7,m8,G⟩:=bnd G;have j5:=G;have m9:∀b9 c0 c4,(.inl (b9,c0,c4))=m7->∀d5 d6 d7 d8 d9 e1 (j6:Imm Z wz (kI .u8) d5 d6 d7 b9) U w,FR 70 [] U [(0,(pP g0)),(1,(pP g1)),(5,.slice (some ⟨a6,0,none⟩) ((z.length:Int).toNat) ((z.length:Int).toNat))]->SH r (blk g0 140 [.slice d5 d6 d7]::blk g1 53 [.slice d8 d9 e1]::own kS 9 d8 d9 e1 c0::own kB 4 (some ⟨a6,0,none⟩) ((z.length:Int).toNat) ((z.length:Int).toNat) c4::L) w->j3 U w:=by intro b9 c0 c4 ht d5 d6 d7 d8 d9 e1 j6 U w J X;subst ht;replace G:kZ b9 c0 c4=some y:=G;unfold kZ at G;exact hb2 b9 c0 c4 G d5 d6 d7 d8 d9 e1 j6 U w (J.sub _ rfl) X
  replace X:=X.pk 1 |>.pk 2 |>.pk 5 |>.pk 5 |>.pk 5 |>.pk 5;refine aT m8 (λs U w=>∃e2 e3 e4 a8 a9 b3,Imm Z wz (kI .u8) e2 e3 e4 s.1/\FR 70 [] U [(0,(pP g0)),(1,(pP g1)),(3,.slice a3 a4 a5),(5,.slice (some ⟨a6,0,none⟩) ((z.length:Int).toNat) ((z.length:Int).toNat)),(38,.slice d1 d2 d3),(39,.int .i64 (b4.1.length:Int)),(40,.int .i64 s.2.2.2)]/\SH r (blk g0 140 [.slice e2 e3 e4]::blk g1 53 [.slice a8 a9 b3]::own kS 9 a8 a9 b3 s.2.1::own kS 9 a3 a4 a5 z::own kB 4 (some ⟨a6,0,none⟩) ((z.length:Int).toNat) ((z.length:Int).toNat) s.2.2.1::own (kI .i64) 2 d1 d2 d3 b4.1::L) w) ⟨m0,m1,m2,N,S,Y,m3,J.sub _ rfl,X⟩ ?_;intro t7 n0 j7 G n4 h9 U w hLab;obtain⟨e5,a7,e6,i0⟩:=n0;replace G:cA z b4 e5 a7 e6 i0=some j7:=G;unfold cA at G
  try dsimp only at hLab
  obtain⟨e2,e3,e4,a8,a9,b3,i1,J,X⟩:=hLab;refine nz 1 J rfl λU J=>wp_seq_k λt8 n5=>aX J G rfl (λn6 G=>?_) λn6 G=>?_
  ·refine wp_skip (n5 _ _ ?_);refine wp_seq_k λt9 n7=>aA λu0 n8=>ws λu1 n9=>?_;obtain⟨e7,j8,G⟩:=bnd G;refine fK bT sz2 (X.rd 5 rfl) j8 J (λU J=>?_) rfl;obtain⟨cs,hV,o0⟩:=el (X.rd 5 rfl) j8;obtain rfl:=hV;refine aM uu2 (o0 0 _ rfl) J (λU J=>?_) rfl;refine x_m J rfl λU J=>wn (n9 _ _ ?_);refine wp_seq_k λo1 o2=>?_;have hj1:∀i2,jM z a7 e6 i0 e7 i2=some j7->∀e8 e9 f1 (j9:Imm Z wz (kI .u8) e8 e9 f1 i2) U w,FR 70 [] U [(0,(pP g0)),(1,(pP g1)),(3,.slice a3 a4 a5),(5,.slice (some ⟨a6,0,none⟩) ((z.length:Int).toNat) ((z.length:Int).toNat)),(7,.int .i64 e7),(38,.slice d1 d2 d3),(39,.int .i64 (b4.1.length:Int)),(40,.int .i64 i0)]->SH r (blk g0 140 [.slice e8 e9 f1]::blk g1 53 [.slice a8 a9 b3]::own kS 9 a8 a9 b3 a7::own kS 9 a3 a4 a5 z::own kB 4 (some ⟨a6,0,none⟩) ((z.length:Int).toNat) ((z.length:Int).toNat) e6::own (kI .i64) 2 d1 d2 d3 b4.1::L) w->o1 U w:=by intro i2 G e8 e9 f1 j9 U w J X;unfold jM at G;refine o2 _ _ (ws λu2 o3=>?_);refine xk 2 J rfl λU J=>?_;obtain⟨u3,k0,G⟩:=bnd G;refine fK aPu sz4 (X.rd 4 rfl) k0 J (λU J=>?_) rfl;refine aR2 (z':=true) (off:=0) (vs:=[.bool true]) 4 sz4 J X rfl (jJ k0).2.2 (λc h=>by cases h; rfl) (λU w X J=>?_) rfl rfl rfl rfl rfl rfl rfl rfl;refine wn (o3 _ _ ?_);refine bZ [0,0,0,6,14,30,63,127] [5,6,7] rfl J X (by kernel_rfl) (by kernel_rfl) (by kernel_rfl) (by kernel_rfl) λw X=>?_;obtain⟨c5,k1,G⟩:=bnd G;obtain⟨cs,hV,o4⟩:=el (X.rd 4 rfl) k1;obtain rfl:=hV;refine⟨[(0,.slice a8 a9 b3),(1,.slice a3 a4 a5),(2,.int .i64 e7),(3,.pointer (some (ea a3 (e7.toNat * 1)))),(4,str c5)],?_⟩;refine dF [0,1,2,3,4] [5] (by kernel_rfl) ⟨pt [(1,_)] rfl (λU J=>aP qF (X.cell 2 rfl 0 _ rfl) J rfl rfl rfl),pm rfl,pm rfl,pt [(58,_),(59,_)] rfl (λU J=>eW qF sz9 (X.rd 4 rfl) k1 J rfl rfl rfl),pt [(60,_)] rfl (λU J=>aP uu9 (o4 0 _ rfl) J rfl rfl rfl),trivial⟩ ⟨et [(61,_)] rfl (λU J K hK=>?_),trivial⟩;refine eN (d:=kS) (e:=9) (ps:=#[(0,str c5)]) (cells:=[str c5]) (xs:=[c5]) (λw=>by kernel_rfl) rfl ⟨[str c5],_,rfl,rfl,rfl⟩ J X (λu4 w X=>?_) rfl;refine hK _ [] _ rfl (dF [0] [6] (by kernel_rfl) ⟨pt [(1,_)] rfl (λU J=>aP qF (X.cell 3 rfl 0 _ rfl) J rfl rfl rfl),trivial⟩ ⟨et [(57,_),(62,_)] rfl (λU J K hK=>?_),trivial⟩);obtain⟨o5,G⟩:=aC G;have hr:=X.rd 0 rfl;refine cK 4 aRa qF J X hr.1 hr.2.1 o5 rfl (λo6 o7 o8 w X=>?_) rfl;refine hK _ [] _ rfl (dF [] [7] (by kernel_rfl) trivial ⟨et [(1,_),(63,_)] rfl (λU J K hK=>?_),trivial⟩);refine jY 4 bDt J X rfl (λw X=>?_) rfl;refine hK _ [] _ rfl (dU [] (by kernel_rfl) trivial ⟨by kernel_rfl,by kernel_rfl⟩ [(0,_),(1,_),(3,_),(5,_),(38,_),(39,_),(40,_)] rfl (λU J=>?_));refine n8 _ _ (n7 _ _ ?_);refine aD (x_l G J rfl λu5 _ U J G=>?_);refine x_m J rfl λU J=>wpList_nil ?_;replace X:=X.drop 2 |>.pk 5 |>.pk 3 |>.pk 5 |>.pk 4 |>.pk 4 |>.pk 5;cases G;exact⟨_,n4 _ rfl,e8,e9,f1,o6,o7,o8,j9,J.sub _ rfl,X⟩
   refine aD (xk 4 J rfl λU J=>?_);refine bcG G (λc6 G=>?_) λc6 G=>?_
   ·refine xg 2 c6 J rfl rfl λU J=>aN c6 J ?_ rfl;refine aW qF (X.rd 3 rfl).2.1 J (λU J=>?_) rfl;refine xg 2 c6 J rfl rfl λU J=>?_;replace X:=(SH.pure_ i1 X).pk 1;replace X:=aH (x:=(⟨e5⟩:S140)) X;refine kG G rP J rfl (λ_ h=>aE h X (qz+5) hZ) (λi3 w X G=>?_) λi3 v U w hR J G=>?_
    ·replace X:=(sY (x:=a7) (X.pk 2 |>.pk 2)).drop 2 |>.drop 2 |>.drop 2 |>.pk 1;cases G;have ht:=h9 _ rfl;subst ht;replace G:=j5;replace G:some (.inr (i3,a7))=some y:=G;cases G;exact hQp _ rfl _ _ J.defers X
    obtain⟨rfl,X⟩:=hR;obtain⟨o9,p0,p4,X⟩:=aB X;obtain⟨p5,X⟩:=(X.pk 1).unpure;exact wpList_nil (hj1 i3.f0 G o9 p0 p4 p5 U w (J.sub _ rfl) X)
   refine xg 5 c6 J rfl rfl λU J=>?_;replace X:=(SH.pure_ i1 X).pk 1;replace X:=aH (x:=(⟨e5⟩:S140)) X;refine kG G rP J rfl (λ_ h=>aE h X (qz+5) hZ) (λi4 w X G=>?_) λi4 v U w hR J G=>?_
   ·replace X:=(sY (x:=a7) (X.pk 2 |>.pk 2)).drop 2 |>.drop 2 |>.drop 2 |>.pk 1;cases G;have ht:=h9 _ rfl;subst ht;replace G:=j5;replace G:some (.inr (i4,a7))=some y:=G;cases G;exact hQp _ rfl _ _ J.defers X
   obtain⟨rfl,X⟩:=hR;obtain⟨p6,p7,p8,X⟩:=aB X;obtain⟨p9,X⟩:=(X.pk 1).unpure;exact wpList_nil (hj1 i4.f0 G p6 p7 p8 p9 U w (J.sub _ rfl) X)
  replace X:=X.drop 3 |>.drop 4;cases G;exact wp_exit (m9 e5 a7 e6 (h9 _ rfl) e2 e3 e4 a8 a9 b3 i1 U w (J.sub _ rfl) X)
 obtain⟨q0,q1,G⟩:=bnd G;have i5:=G;have q2:∀c7 c8,(.inl (c7,c8))=q0->∀f2 f3 f4 f5 f6 f7 (k2:Imm Z wz (kI .u8) f2 f3 f4 c7) U w,FR 70 [] U [(0,(pP g0)),(1,(pP g1)),(3,.slice f5 f6 f7)]->SH r (blk g0 140 [.slice f2 f3 f4]::blk g1 53 [.slice N S Y]::own kS 9 N S Y a1::own kS 9 f5 f6 f7 c8::L) w->j1 U w:=by intro c7 c8 ht f2 f3 f4 f5 f6 f7 k2 U w J X;subst ht;replace G:lB a1 c7 c8=some y:=G;unfold lB at G;exact hb1 c7 c8 G f2 f3 f4 f5 f6 f7 k2 U w (J.sub _ rfl) X
 replace X:=(SH.nil_own (d:=kS) (e:=9) X).pk 3 |>.pk 3 |>.pk 3;refine aT q1 (λs U w=>∃f8 f9 g2 b5 b6 b7,Imm Z wz (kI .u8) f8 f9 g2 s.1/\FR 70 [] U [(0,(pP g0)),(1,(pP g1)),(3,.slice b5 b6 b7),(9,.int .u64 c9.1),(10,.int .u64 s.2.2)]/\SH r (blk g0 140 [.slice f8 f9 g2]::blk g1 53 [.slice N S Y]::own kS 9 N S Y a1::own kS 9 b5 b6 b7 s.2.1::L) w) ⟨l1,l2,l3,none,0,0,l4,J.sub _ rfl,X⟩ ?_;intro u6 q3 k3 G q4 g3 U w hLab;obtain⟨i6,g4,i7⟩:=q3;replace G:cZ a1 c9 i6 g4 i7=some k3:=G;unfold cZ at G
 try dsimp only at hLab
 obtain⟨f8,f9,g2,b5,b6,b7,k4,J,X⟩:=hLab;refine nz 1 J rfl λU J=>wp_seq_k λu7 q5=>aX J G rfl (λq6 G=>?_) λq6 G=>?_
 ·refine wp_skip (q5 _ _ ?_);refine wp_seq_k λu9 q7=>aA λv0 q8=>ws λv1 q9=>xk 1 J rfl λU J=>?_;replace X:=(SH.pure_ k4 X).pk 1;replace X:=aH (x:=(⟨i6⟩:S140)) X;refine kG G aU5 J rfl (λ_ h=>nR h X (qz+3) hZ) (λC w X G=>?_) λC v U w hR J G=>?_
  ·replace X:=(sY (x:=a1) (X.pk 2 |>.pk 2)).drop 2 |>.pk 1;cases G;have ht:=g3 _ rfl;subst ht;replace G:=i5;replace G:some (.inr (C,a1))=some y:=G;cases G;exact hQp _ rfl _ _ J.defers X
  obtain⟨rfl,X⟩:=hR;obtain⟨v2,v3,v4,X⟩:=aB X;obtain⟨k5,X⟩:=(X.pk 1).unpure;refine x_m J rfl λU J=>wn (q9 _ _ ?_);refine wp_seq_k λr0 r1=>?_;have hj2:∀i8,gV g4 i7 C i8=some k3->∀g5 g6 g7 (k6:Imm Z wz (kI .u8) g5 g6 g7 i8) U w,FR 70 [] U [(0,(pP g0)),(1,(pP g1)),(3,.slice b5 b6 b7),(4,str C.1),(9,.int .u64 c9.1),(10,.int .u64 i7)]->SH r (blk g0 140 [.slice g5 g6 g7]::blk g1 53 [.slice N S Y]::own kS 9 N S Y a1::own kS 9 b5 b6 b7 g4::L) w->r0 U w:=by intro i8 G g5 g6 g7 k6 U w J X;unfold gV at G;refine r1 _ _ (aD ?_);refine xk 2 J rfl λU J=>kV (d:=kS) (e:=9) (ps:=#[(0,str C.1)]) (cells:=[str C.1]) (xs:=[C.1]) (λw=>by kernel_rfl) rfl ⟨[str C.1],_,rfl,rfl,rfl⟩ J X (λv5 U w X J=>?_) rfl;obtain⟨r2,G⟩:=aC G;have hr:=X.rd 0 rfl;refine lI 4 aRa qF J X hr.1 hr.2.1 r2 rfl (λr3 r4 r5 U w X J=>?_) rfl;refine x_m J rfl λU J=>wpList_nil (q8 _ _ ?_);refine q7 _ _ (aD ?_);refine x_l G J rfl λv6 _ U J G=>x_m J rfl λU J=>wpList_nil ?_;replace X:=X.drop 1 |>.pk 3 |>.pk 3 |>.pk 3;cases G;exact⟨_,q4 _ rfl,g5,g6,g7,r3,r4,r5,k6,J.sub _ rfl,X⟩
  refine aD (xk 2 J rfl λU J=>?_);refine aW qF (X.rd 3 rfl).2.1 J (λU J=>?_) rfl;refine xk 2 J rfl λU J=>bcG G (λI G=>?_) λI G=>?_
  ·refine xg 9 I J rfl rfl λU J=>?_;replace X:=aH (x:=C.2) ((SH.pure_ k5 X).pk 1);refine kG G rP J rfl (λ_ h=>aE h X (qz+3) hZ) (λi9 w X G=>?_) λi9 v U w hR J G=>?_
   ·replace X:=(sY (x:=a1) (X.pk 2 |>.pk 2)).drop 2 |>.pk 1;cases G;have ht:=g3 _ rfl;subst ht;replace G:=i5;replace G:some (.inr (i9,a1))=some y:=G;cases G;exact hQp _ rfl _ _ J.defers X
   obtain⟨rfl,X⟩:=hR;obtain⟨r6,r7,r8,X⟩:=aB X;obtain⟨r9,X⟩:=(X.pk 1).unpure;exact wpList_nil (hj2 i9.f0 G r6 r7 r8 r9 U w (J.sub _ rfl) X)
  refine xg 2 I J rfl rfl λU J=>aN I J ?_ rfl;refine aW qF (X.rd 3 rfl).2.1 J (λU J=>?_) rfl;refine aN I J ?_ rfl;refine x_l G J rfl λv7 _ U J G=>aN I J ?_ rfl;obtain⟨v8,k7,G⟩:=bnd G;refine fK qF sz9 (X.rd 3 rfl) k7 J (λU J=>?_) rfl;refine aN I J ?_ rfl;obtain⟨cs,hV,s2⟩:=el (X.rd 3 rfl) k7;obtain rfl:=hV;refine aM uu9 (s2 0 _ rfl) J (λU J=>?_) rfl;refine xg 1 I J rfl rfl λU J=>aN I J ?_ rfl;refine x_v J (aP0 rfl (J.ev rfl) (J.ev rfl)) rfl λU J=>xg 1 I J rfl rfl λU J=>?_;replace X:=aH (x:=C.2) ((SH.pure_ k5 X).pk 1);refine kG G rP J rfl (λ_ h=>aE h X (qz+3) hZ) (λj0 w X G=>?_) λj0 v U w hR J G=>?_
  ·replace X:=(sY (x:=a1) (X.pk 2 |>.pk 2)).drop 2 |>.pk 1;cases G;have ht:=g3 _ rfl;subst ht;replace G:=i5;replace G:some (.inr (j0,a1))=some y:=G;cases G;exact hQp _ rfl _ _ J.defers X
  obtain⟨rfl,X⟩:=hR;obtain⟨s3,s4,s5,X⟩:=aB X;obtain⟨s6,X⟩:=(X.pk 1).unpure;exact wpList_nil (hj2 j0.f0 G s3 s4 s5 s6 U w (J.sub _ rfl) X)
 cases G;exact wp_exit (q2 i6 g4 (g3 _ rfl) f8 f9 g2 b5 b6 b7 k4 U w (J.sub _ rfl) X)
theorem zR {a0 C A0 n0 c0 z y} (G:pX a0 C=some y) (X:SH r (obj53 z C::L) w) (qz:Nat) (hZ:L[qz]?=some (zone Z wz)) (ha0:Imm Z wz (kI .u8) A0 n0 c0 a0) :
  Ret Tryz.prog 47 #[.slice A0 n0 c0,.func (.func 112) #[] #[.pointer (some ⟨z,0,none⟩)]] w λv w'=>v=.bool y.1/\SH r (obj53 z y.2::L) w':=by
 obtain⟨y',hy,G⟩:=bnd G;refine Ret.mono_ (aCd (R:=λv w'=>v=.bool y.1/\SH r (obj53 z y.2::L) w') bB4 X (λg g4 w1 hS1=>?_)) (λv w' h=>h);replace hS1:=aH (x:=⟨a0⟩) (hS1.pk 1 |> λh=>(SH.pure_ ha0 (h.pk 1)).pk 1);replace hS1:=hS1.pk 1;replace hS1:=hS1.pk 2;replace hS1:=hS1.pk 2;rcases y' with y' | y'
 ·replace G:=wN G;cases G;left;refine Ret.mono_ (RetS.lf (wE hy hS1 (qz+1) hZ :)) ?_;rintro v w2 ⟨rfl,X⟩;replace X:=X.pk 2 |>.pk 1;obtain⟨A',n',c',X⟩:=aB X;have hQ:=SH.unpure (X.pk 1);clear X;obtain⟨hi,X⟩:=hQ;refine⟨_,A',n',c',X,λw3 h3=>⟨?_,h3⟩⟩;rw [← hi.ln]
 ·replace G:=wJ G;cases G;right;refine Calls.mono (RetS.rf (wE hy hS1 (qz+1) hZ :)) ?_;rintro e w2 ⟨rfl,X⟩;replace X:=X.pk 2 |>.drop 1;exact⟨rfl,_,X,λw3 h3=>⟨rfl,h3⟩⟩
theorem aDu {a0 A0 n0 c0 y} (G:oZ a0=some y) (X:SH r (L) w) (qz:Nat) (hZ:L[qz]?=some (zone Z wz)) (ha0:Imm Z wz (kI .u8) A0 n0 c0 a0) :
  Ret Tryz.prog 96 #[.slice A0 n0 c0] w λv w'=>∃ (B0:Option Addr) (m0:Nat) (d0:Nat),v=.tuple #[(.slice B0 m0 d0),(.int .i64 y.2)]/\SH r (own kS 9 B0 m0 d0 y.1::L) w':=by
 refine enter Tryz.func96 rfl Tryz.ntmps96 [(0,_)] rfl (by simp) ?_;intro U J Qf hQ hQn;unfold oZ at G;refine nz 2 J rfl λU J=>ws λa6 z=>eY (cs:=[.slice none 0 0]) bDp J X (λC U w X J=>?_) rfl;refine wn (z _ _ ?_);refine ws λa7 I=>xk 1 J rfl λU J=>x_v J (gO rfl (lU (vals:=#[]) J rfl) (lU (vals:=#[.pointer (some ⟨C,0,none⟩)]) J rfl)) rfl λU J=>?_;replace X:=sY (x:=[]) ((SH.nil_own (d:=kS) (e:=9) X).pk 1);obtain⟨a8,N,G⟩:=bnd G;refine x_c aTl J rfl (zR N X (qz+0) hZ ha0 :) λv U w hR J=>?_;obtain⟨rfl,X⟩:=hR;obtain⟨S,Y,a1,X⟩:=aHb X;refine x_m J rfl λU J=>wn (I _ _ ?_);refine wp_seq_k λa9 a3=>nz 2 J rfl λU J=>aX J G rfl (λa4 G=>?_) λa4 G=>?_
 ·refine nz 2 J rfl λU J=>?_;replace X:=(SH.nil_own (d:=kS) (e:=9) X).drop 1 |>.drop 1;cases G;refine wp_ret (hQ _ _ ?_);exact lv2 Tryz.results96 J rfl rfl ⟨none,0,0,rfl,X⟩
 refine wp_skip (a3 _ _ ?_);refine ws λb3 a5=>aM qF (X.cell 0 rfl 0 _ rfl) J (λU J=>?_) rfl;refine nk 2 J rfl λU J=>?_;replace X:=X.drop 0;cases G;refine a5 _ _ (wp_ret ?_);refine hQ _ _ (lv2 Tryz.results96 J rfl rfl ?_);exact⟨S,Y,a1,rfl,X⟩
end
end Go.Proofs.YtdkpjpoajlmmfaaGreatDoor.M
namespace Go.Proofs
open Go.RowKit Go.Maps Go.Sort Go.Shelf
def Tryz.sortL_ren:Go.Shelf.Ren:=⟨fun | 190=>140 | 125=>151 | 258=>150 | 128=>161 | 129=>134 | 302=>153 | 303=>154 | 304=>155 | 305=>156 | 306=>157 | 307=>158 | 308=>142 | 309=>159 | 310=>160 | 333=>162 | 329=>163 | 330=>164 | 334=>165 | 335=>166 | 336=>152 | 344=>167 | n=>n,fun | 31=>53 | 9=>9 | 3=>3 | 46=>125 | 0=>0 | 51=>67 | 53=>24 | 4=>4 | 183=>216 | 182=>215 | 131=>100 | 5=>5 | 218=>221 | 222=>224 | 228=>226 | 229=>227 | n=>n,fun | n=>n⟩
theorem Tryz.sortL:Go.Proofs.Lays.n190 Tryz.prog Tryz.sortL_ren:={
 mixed:=by kernel_rfl
 f125:=Tryz.func151.trans (congrArg some (by kernel_rfl))
 f128:=Tryz.func161.trans (congrArg some (by kernel_rfl))
 f129:=Tryz.func134.trans (congrArg some (by kernel_rfl))
 f190:=Tryz.func140.trans (congrArg some (by kernel_rfl))
 f258:=Tryz.func150.trans (congrArg some (by kernel_rfl))
 f302:=Tryz.func153.trans (congrArg some (by kernel_rfl))
 f303:=Tryz.func154.trans (congrArg some (by kernel_rfl))
 f304:=Tryz.func155.trans (congrArg some (by kernel_rfl))
 f305:=Tryz.func156.trans (congrArg some (by kernel_rfl))
 f306:=Tryz.func157.trans (congrArg some (by kernel_rfl))
 f307:=Tryz.func158.trans (congrArg some (by kernel_rfl))
 f308:=Tryz.func142.trans (congrArg some (by kernel_rfl))
 f309:=Tryz.func159.trans (congrArg some (by kernel_rfl))
 f310:=Tryz.func160.trans (congrArg some (by kernel_rfl))
 f329:=Tryz.func163.trans (congrArg some (by kernel_rfl))
 f330:=Tryz.func164.trans (congrArg some (by kernel_rfl))
 f333:=Tryz.func162.trans (congrArg some (by kernel_rfl))
 f334:=Tryz.func165.trans (congrArg some (by kernel_rfl))
 f335:=Tryz.func166.trans (congrArg some (by kernel_rfl))
 f336:=Tryz.func152.trans (congrArg some (by kernel_rfl))
 f344:=Tryz.func167.trans (congrArg some (by kernel_rfl))
 t0:=Tryz.underlying0
 a0:=Tryz.isAgg0
 z0:=Tryz.sizeOf0
 v0:=Tryz.zeroValue0
 t3:=Tryz.underlying3
 a3:=Tryz.isAgg3
 z3:=Tryz.sizeOf3
 v3:=Tryz.zeroValue3
 t4:=Tryz.underlying4
 a4:=Tryz.isAgg4
 z4:=Tryz.sizeOf4
 v4:=Tryz.zeroValue4
 t5:=Tryz.underlying5
 a5:=Tryz.isAgg5
 z5:=Tryz.sizeOf5
 v5:=Tryz.zeroValue5
 t9:=Tryz.underlying9
 a9:=Tryz.isAgg9
 z9:=Tryz.sizeOf9
 v9:=Tryz.zeroValue9
 t31:=Tryz.underlying53
 a31:=Tryz.isAgg53
 z31:=Tryz.sizeOf53
 v31:=Tryz.zeroValue53
 t46:=Tryz.underlying125
 a46:=Tryz.isAgg125
 z46:=Tryz.sizeOf125
 v46:=Tryz.zeroValue125
 t51:=Tryz.underlying67
 a51:=Tryz.isAgg67
 z51:=Tryz.sizeOf67
 v51:=Tryz.zeroValue67
 t53:=Tryz.underlying24
 a53:=Tryz.isAgg24
 z53:=Tryz.sizeOf24
 v53:=Tryz.zeroValue24
 t131:=Tryz.underlying100
 a131:=Tryz.isAgg100
 z131:=Tryz.sizeOf100
 v131:=Tryz.zeroValue100
 t182:=Tryz.underlying215
 a182:=Tryz.isAgg215
 z182:=Tryz.sizeOf215
 v182:=Tryz.zeroValue215
 t183:=Tryz.underlying216
 a183:=Tryz.isAgg216
 z183:=Tryz.sizeOf216
 v183:=Tryz.zeroValue216
 t218:=Tryz.underlying221
 a218:=Tryz.isAgg221
 z218:=Tryz.sizeOf221
 v218:=Tryz.zeroValue221
 t222:=Tryz.underlying224
 a222:=Tryz.isAgg224
 z222:=Tryz.sizeOf224
 v222:=Tryz.zeroValue224
 t228:=Tryz.underlying226
 a228:=Tryz.isAgg226
 z228:=Tryz.sizeOf226
 v228:=Tryz.zeroValue226
 t229:=Tryz.underlying227
 a229:=Tryz.isAgg227
 z229:=Tryz.sizeOf227
 v229:=Tryz.zeroValue227 }
def Tryz.compactL_ren:Go.Shelf.Ren:=⟨fun | 194=>123 | n=>n,fun | 31=>53 | 9=>9 | 3=>3 | 4=>4 | 0=>0 | n=>n,fun | n=>n⟩
theorem Tryz.compactL:Go.Proofs.Lays.n194 Tryz.prog Tryz.compactL_ren:={
 mixed:=by kernel_rfl
 f194:=Tryz.func123.trans (congrArg some (by kernel_rfl))
 t0:=Tryz.underlying0
 a0:=Tryz.isAgg0
 z0:=Tryz.sizeOf0
 v0:=Tryz.zeroValue0
 t3:=Tryz.underlying3
 a3:=Tryz.isAgg3
 z3:=Tryz.sizeOf3
 v3:=Tryz.zeroValue3
 t4:=Tryz.underlying4
 a4:=Tryz.isAgg4
 z4:=Tryz.sizeOf4
 v4:=Tryz.zeroValue4
 t9:=Tryz.underlying9
 a9:=Tryz.isAgg9
 z9:=Tryz.sizeOf9
 v9:=Tryz.zeroValue9
 t31:=Tryz.underlying53
 a31:=Tryz.isAgg53
 z31:=Tryz.sizeOf53
 v31:=Tryz.zeroValue53 }
def Tryz.sortedL_ren:Go.Shelf.Ren:=⟨fun | 6=>124 | 8=>139 | 9=>140 | 11=>149 | 13=>151 | 12=>150 | 23=>161 | 24=>134 | 14=>153 | 15=>154 | 16=>155 | 17=>156 | 18=>157 | 19=>158 | 20=>142 | 21=>159 | 22=>160 | 25=>162 | 26=>163 | 27=>164 | 28=>165 | 29=>166 | 30=>152 | 31=>167 | n=>n,fun | 26=>9 | 28=>191 | 24=>53 | 0=>0 | 3=>3 | 37=>125 | 48=>67 | 50=>24 | 4=>4 | 40=>216 | 39=>215 | 45=>100 | 5=>5 | 9=>9 | 51=>221 | 55=>224 | 57=>226 | 58=>227 | 33=>133 | n=>n,fun | n=>n⟩
theorem Tryz.sortedL:Go.Proofs.SlLaysZ.n6 Tryz.prog Tryz.sortedL_ren:={
 mixed:=by kernel_rfl
 f6 := ⟨ "slices.Sorted[string]", by decide, Tryz.func124.trans (congrArg some (by kernel_rfl))⟩
 f8 := ⟨ "slices.Collect[string]", by decide, Tryz.func139.trans (congrArg some (by kernel_rfl))⟩
 f11 := ⟨ "slices.AppendSeq[[]string,string]", by decide, Tryz.func149.trans (congrArg some (by kernel_rfl))⟩
 t0:=Tryz.underlying0
 a0:=Tryz.isAgg0
 z0:=Tryz.sizeOf0
 v0:=Tryz.zeroValue0
 t24:=Tryz.underlying53
 a24:=Tryz.isAgg53
 z24:=Tryz.sizeOf53
 v24:=Tryz.zeroValue53
 t26:=Tryz.underlying9
 a26:=Tryz.isAgg9
 z26:=Tryz.sizeOf9
 v26:=Tryz.zeroValue9
 t28:=Tryz.underlying191
 a28:=Tryz.isAgg191
 z28:=Tryz.sizeOf191
 v28:=Tryz.zeroValue191
 i26:=by kernel_rfl }
set_option maxRecDepth 100000 in
set_option maxHeartbeats 2000000 in
theorem aK5 (n:Nat) (hn:1<=n) (l Bx B:Nat) (W0:World) (A:Option Addr) (c:Nat) (xs:List (List UInt8)) (hl:xs.length<=4611686018427387904) (J:List (List UInt8)->World->Prop)
  (hJB:∀ ss W1,J ss W1->Below B W0 W1) (hBx:Bx<B) (hbox:W0.cell? ⟨Bx,0,none⟩=some (.slice A xs.length c))
  (hrow:0<xs.length->∃ b off,A=some ⟨b,off,none⟩/\b<B/\∀ j x,xs[j]?=some x->W0.cell? ⟨b,off+j,none⟩=some (encStr x))
  (hY:∀ pre x W1,J pre W1->pre.length<xs.length->YieldAt Fence.wide (n - 1) Tryz.prog l #[encStr x] W1 λe W'=>e=.returned (.bool true)/\J (pre++[x]) W'/\KeepsWalks W1 W')
  (W:World) (h0:J [] W) :
  CallsIn Fence.wide n Tryz.prog 141 #[.func (.yield l) #[] #[],.pointer (some ⟨Bx,0,none⟩)] W λe W'=>(∃ v,e=.returned v)/\J xs W':=by
 have hb1:=(hJB _ _ h0);have hx0:W.cell? ⟨Bx,0,none⟩=some (.slice A xs.length c):=(hb1.cell (p:=⟨Bx,0,none⟩) hBx).trans hbox;refine callsIn_of_wp Tryz.func141 rfl trivial ?_ rfl;simp only [Tryz.ntmps141,List.size_toArray,List.length_cons,List.length_nil,Nat.reduceAdd,Nat.reduceSub,Array.replicate_succ,Array.replicate_zero,List.push_toArray,List.append_toArray,List.nil_append,List.cons_append]
 gi_wp2
 gi_loopw [7] (λs7 wr=>∃ k:Nat,s7=.int .i64 k/\k<=xs.length/\J (xs.take k) wr) (λs7 _=>match s7 with | .int .i64 k=>(xs.length:Int).toNat - k.toNat | _=>0)
 case atStart=>exact⟨0,rfl,Nat.zero_le _,by simpa using h0⟩
 case round =>
  obtain⟨k,rfl,hk,hJk⟩:=hrel;by_cases hlt:k<xs.length
  ·obtain⟨b,off,rfl,hb,hcell⟩:=hrow (by omega);have hx:=List.getElem?_eq_getElem hlt;have hc:=((hJB _ _ hJk).cell (p:=⟨b,off+k,none⟩) hb).trans (hcell k _ hx);obtain⟨x,hxx⟩:∃ x,x=xs[k]:=⟨_,rfl⟩;rw [← hxx] at hc hx;have hkl:(xs.take k).length=k:=by simp; omega
   obtain⟨fn,tmps,assign,body,hy,hR⟩:=hY (xs.take k) x wr hJk (by omega);clear hrow hcell hxx
   gi_wp2
   refine hR.mono ?_;rintro e W3 ⟨rfl,hJ3,hk3⟩
   gi_wp2
   go_roundw
   case rel=>exact⟨k+1,by simp,by omega,by rw [List.take_add_one,hx]; exact hJ3⟩
   case measure=>simp; omega
  ·have:k=xs.length:=by omega
   subst this
   gi_wp2
   go_end0
   exact⟨⟨_,rfl⟩,by simpa using hJk⟩
set_option maxRecDepth 100000 in
set_option maxHeartbeats 2000000 in
theorem aFe (Bx:Nat) (w:World) (A:Option Addr) (c:Nat) (xs:List (List UInt8)) (hl:xs.length * 16<=140737488355328) (hBx:Bx<w.heap.size) (hbox:w.cell? ⟨Bx,0,none⟩=some (.slice A xs.length c))
  (hrow:0<xs.length->∃ b off,A=some ⟨b,off,none⟩/\b<w.heap.size/\∀ j x,xs[j]?=some x->w.cell? ⟨b,off+j,none⟩=some (encStr x)) :
  Calls Tryz.prog 149 #[.slice none 0 0,.func (.func 141) #[] #[.pointer (some ⟨Bx,0,none⟩)]] w λe w'=>∃ v,e=.returned v/\w'.ownsRow w.heap.size 9 1 v xs.length (xs.map encStr)/\(v=.slice none 0 0↔xs=[])/\Below w.heap.size w w':=by
 refine (callsIn_wide (n:=5)).1 ?_;obtain⟨sv,hsv⟩:∃ sv:Value,sv=.func (.func 141) #[] #[.pointer (some ⟨Bx,0,none⟩)]:=⟨_,rfl⟩;have hsv':=hsv;refine callsIn_of_wp_marks Tryz.func149 rfl trivial ?_ rfl;simp only [Tryz.ntmps149,List.size_toArray,List.length_cons,List.length_nil,Nat.reduceAdd,Nat.reduceSub,Array.replicate_succ,Array.replicate_zero,List.push_toArray,List.append_toArray,List.nil_append,List.cons_append]
 gi_wp2
 refine wpIn_rangeFunc ?_;intro fn hfn;rw [show Fence.wide.round=none from rfl]
 let ρ:=Tryz.sortedL_ren
 obtain⟨W0,hW0⟩:∃ W0,w.alloc (.cells #[.slice none 0 0] 53)=W0:=⟨_,rfl⟩;have hs0:W0.heap.size=w.heap.size+1:=by rw [← hW0]; simp
 have hv0:W0.heap[w.heap.size]?=some (.cells #[.slice none 0 0] 53 (0,0)):=by rw [← hW0]; exact World.alloc_heap_new w _
 have hb0:Below w.heap.size w W0:=by rw [← hW0]; exact (Below.refl _ w).alloc (Nat.le_refl _) _
 rw [hW0];obtain⟨W1,hW1⟩:∃ W1,(W0.alloc (.deferred (some []))).alloc (.loop (AnyZ.apRec ρ fn sv w.heap.size W0.heap.size .ready none))=W1:=⟨_,rfl⟩;have hold:∀ k,k<W0.heap.size->W1.heap[k]?=W0.heap[k]?:=λk hk=>by rw [← hW1]; exact (Below.heap_alloc _ _ k (by simp; omega)).trans (Below.heap_alloc _ _ k hk)
 have hb1:Below w.heap.size w W1:=by rw [← hW1]; exact (hb0.alloc hb0.size _).alloc (by have:=hb0.size; simp; omega) _
 have hM:AnyZ.ApAt ρ w fn sv w.heap.size (W0.heap.size+1) W0.heap.size [] W1 :=
  ⟨⟨_,(hold w.heap.size (by omega)).trans hv0,⟨rfl,.inl ⟨rfl,rfl⟩⟩,by simp⟩,
   by rw [← hW1]; have:=World.alloc_heap_new (W0.alloc (.deferred (some []))) (.loop (AnyZ.apRec ρ fn sv w.heap.size W0.heap.size .ready none)); rwa [World.size_alloc] at this,
   by rw [← hW1]; exact (Below.heap_alloc _ _ _ (by simp)).trans (World.alloc_heap_new W0 _),hb1⟩
 refine⟨W0.heap.size+1,[{ target:=.collected W0.heap.size,args:=#[] }],W1,{ target:=.fn (.func 141) #[.pointer (some ⟨Bx,0,none⟩)],args:=#[.func (.yield (W0.heap.size+1)) #[] #[]] },W1,141,
  #[.func (.yield (W0.heap.size+1)) #[] #[]]++#[.pointer (some ⟨Bx,0,none⟩)],W1,?_,?_,?_,?_,λ_=>by omega,?_⟩
 ·rw [← hW1,hsv]; exact run_enterLoop_outer _ _ _ _ _
 ·simp [resolve,go_sem]
 ·intro f' hf'; trivial
 ·simp [invoke,go_sem]
 ·have hcur:=AnyZ.apYield (ρ:=ρ) (P:=Tryz.prog) { Tryz.sortedL with } Fence.wide 3 w fn hfn sv w.heap.size (W0.heap.size+1) W0.heap.size (by omega) (by omega) (by omega) (Nat.le_refl _) (by omega) xs.length (by unfold maxLen; omega) hl;refine (aK5 4 (by omega) (W0.heap.size+1) Bx w.heap.size w A c xs (by omega) (AnyZ.ApAt ρ w fn sv w.heap.size (W0.heap.size+1) W0.heap.size) (λss W1 h=>h.below) hBx hbox hrow
   (λpre x W hJ hlt=>hcur pre x W hJ hlt) W1 hM).mono ?_
  rintro e W2 ⟨⟨v0,rfl⟩,h2⟩;obtain⟨v,hv,hr,hnil⟩:=h2.box;have hend:=run_endLoop (P:=Tryz.prog) h2.L (by simp [AnyZ.apRec]);obtain⟨W3,hW3⟩:∃ W3,W2.putObj (W0.heap.size+1) (.loop { AnyZ.apRec ρ fn sv w.heap.size W0.heap.size .ready none with state:=.exhausted })=W3:=⟨_,rfl⟩;rw [hW3] at hend;have hg3:W2.grownBy W3 (some (W0.heap.size+1)):=by rw [← hW3]; exact grownBy_putObj_a _ _ _
  have hv3:W3.heap[w.heap.size]?=some (.cells #[v] 53 (0,0)):=by rw [← hW3]; exact (World.putObj_heap_other (by omega)).trans hv
  have hK3:W3.heap[W0.heap.size]?=some (.deferred (some [])):=by rw [← hW3]; exact (World.putObj_heap_other (by omega)).trans h2.K
  have hr3:=hr.kept hg3 (ownsRow_ne_a hr h2.L (λcur e=>by cases e));have hb3:Below w.heap.size w W3:=h2.below.grown hg3 h2.below.size (λk e=>by cases e; omega);obtain⟨hc3,hf3⟩:=cell_of_box_a hv3;clear hW3;refine⟨none,W3,hend,?_⟩
  gi_wp2
  rw [← hs0];refine⟨by simp,.inl ⟨_,_,rfl,run_takeDeferred hK3,?_⟩⟩;exact⟨_,results_tmp rfl _ _ _,v,rfl,hr3.kept (grownBy_putObj_a _ _ _) (ownsRow_ne_a hr3 hK3 (λcur e=>by cases e)),hnil,hb3.grown (grownBy_putObj_a _ _ _) hb3.size (λk e=>by cases e; omega)⟩
set_option maxRecDepth 100000 in
set_option maxHeartbeats 2000000 in
theorem aIa (Bx:Nat) (w:World) (A:Option Addr) (c:Nat) (xs:List (List UInt8)) (hl:xs.length * 16<=140737488355328) (hBx:Bx<w.heap.size) (hbox:w.cell? ⟨Bx,0,none⟩=some (.slice A xs.length c))
  (hrow:0<xs.length->∃ b off,A=some ⟨b,off,none⟩/\b<w.heap.size/\∀ j x,xs[j]?=some x->w.cell? ⟨b,off+j,none⟩=some (encStr x)) :
  Calls Tryz.prog 139 #[.func (.func 141) #[] #[.pointer (some ⟨Bx,0,none⟩)]] w λe w'=>∃ v,e=.returned v/\w'.ownsRow w.heap.size 9 1 v xs.length (xs.map encStr)/\(v=.slice none 0 0↔xs=[])/\Below w.heap.size w w':=by
 refine (callsIn_wide (n:=6)).1 ?_;have cS:=(callsIn_wide (n:=5)).2 (aFe Bx w A c xs hl hBx hbox hrow);refine callsIn_of_wp Tryz.func139 rfl trivial ?_ rfl;simp only [Tryz.ntmps139,List.size_toArray,List.length_cons,List.length_nil,Nat.reduceAdd,Nat.reduceSub,Array.replicate_succ,Array.replicate_zero,List.push_toArray,List.append_toArray,List.nil_append,List.cons_append];have hfS:Fence.wide.fn 149:=trivial
 gi_wp2_with (gi_at_call 149; refine cS.mono ?_; rintro e w' ⟨v,rfl,hr,hnil,hb⟩)
 go_ret
 exact⟨v,rfl,hr,hnil,hb⟩
set_option maxRecDepth 100000 in
set_option maxHeartbeats 2000000 in
theorem aIu (Bx:Nat) (w:World) (A:Option Addr) (c:Nat) (xs:List (List UInt8)) (hl:xs.length * 16<=140737488355328) (hBx:Bx<w.heap.size) (hbox:w.cell? ⟨Bx,0,none⟩=some (.slice A xs.length c))
  (hrow:0<xs.length->∃ b off,A=some ⟨b,off,none⟩/\b<w.heap.size/\∀ j x,xs[j]?=some x->w.cell? ⟨b,off+j,none⟩=some (encStr x)) :
  Calls Tryz.prog 124 #[.func (.func 141) #[] #[.pointer (some ⟨Bx,0,none⟩)]] w λe w'=>∃ v,e=.returned v/\w'.ownsRow w.heap.size 9 1 v xs.length ((xs.mergeSort λx y=>decide (x<=y)).map encStr)/\(v=.slice none 0 0↔xs=[])/\Below w.heap.size w w':=by
 refine (callsIn_wide (n:=7)).1 ?_;have cS:=(callsIn_wide (n:=6)).2 (aIa Bx w A c xs hl hBx hbox hrow);refine callsIn_of_wp Tryz.func124 rfl trivial ?_ rfl;simp only [Tryz.ntmps124,List.size_toArray,List.length_cons,List.length_nil,Nat.reduceAdd,Nat.reduceSub,Array.replicate_succ,Array.replicate_zero,List.push_toArray,List.append_toArray,List.nil_append,List.cons_append];have hfS:Fence.wide.fn 139:=trivial;have hfT:Fence.wide.fn 140:=trivial
 gi_wp2_with (gi_at_call 139; refine cS.mono ?_; rintro e W ⟨v,rfl,hr,hnil,hb⟩)
 rcases hr.2 with ⟨rfl,hz⟩ | ⟨gb,cap,cur,rfl,hbase,hgb,r1,r2,r3,r4⟩
 ·have hss:xs=[]:=List.eq_nil_of_length_eq_zero hz;subst hss;have cT:=(callsIn_wide (n:=6)).2 (Any.slices_Sort_string_none Tryz.sortL none 0 W);change CallsIn _ _ Tryz.prog 140 _ _ _ at cT
  gi_wp2_with (gi_at_call 140; refine cT.mono ?_; rintro e w' ⟨rfl,rfl⟩)
  go_ret
  exact⟨_,rfl,by simpa using hr,by simp,hb⟩
 ·have hH:Holds encStr W gb 0 xs.toArray:=holds_of_block hgb (by simpa using r4);have hgl:gb<W.heap.size:=(Array.getElem?_eq_some_iff.1 hgb).1;have cT:=(callsIn_wide (n:=6)).2 (Any.slices_Sort_string Tryz.sortL gb 0 cap xs W hH hgl (by omega));change CallsIn _ _ Tryz.prog 140 _ _ _ at cT
  gi_wp2_with (gi_at_call 140; refine cT.mono ?_; rintro e w' ⟨rfl,nn,os,rfl⟩)
  go_ret
  exact⟨_,rfl,ownsRow_sorted (by simp) hbase hgb r1 r2 r3,hnil,hb.grown (grownBy_sorted _) hb.size (λj hj=>by cases hj; exact hbase)⟩
end Go.Proofs
namespace Go.Proofs.YtdkpjpoajlmmfaaGreatDoor.M
open Go Go.RowKit Go.Proofs.YtdkpjpoajlmmfaaGreatDoor.E
noncomputable def rH (a0:List (List UInt8)):Option (List (List UInt8)):=chk (a0.length * 16<=140737488355328) (some (a0.mergeSort λx y=>decide (x<=y)))
noncomputable def slices_Compact_string (a0:List (List UInt8)):Option (List (List UInt8)):=some (Lib.compact a0)
end Go.Proofs.YtdkpjpoajlmmfaaGreatDoor.M
