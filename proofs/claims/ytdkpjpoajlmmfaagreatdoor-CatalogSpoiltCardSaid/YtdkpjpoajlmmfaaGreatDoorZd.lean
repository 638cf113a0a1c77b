/- Texts of the claim, joined: what it uses of Mcr, Drf, Mrf, Drg, Mrg, Dtx, Mtx, Va, Dst0. -/
import Derived.Test.YtdkpjpoajlmmfaaGreatDoorZc
import Derived.Test.YtdkpjpoajlmmfaaGreatDoorProg
import Derived.Shelf.SlIter.Sorted
import Derived.Shelf.Sort.Plain
import Derived.Shelf.Slices.In.SortNone
import Derived.Shelf.Slices.CompactS
import Derived.KernelRfl
namespace Go.Proofs.YtdkpjpoajlmmfaaGreatDoor.M
open Go Go.RowKit Go.Proofs.YtdkpjpoajlmmfaaGreatDoor.E
set_option linter.unusedVariables false
set_option maxRecDepth 100000
set_option maxHeartbeats 4000000
set_option linter.unusedSimpArgs false
section
variable {r:World} {L:List HP} {w:World} {Z:Nat->Prop} {wz:World}
theorem aE {a0 a1 a y} (G:aI a0 a1=some y) (X:SH r (obj140 Z wz a a0::L) w) (qz:Nat) (i:L[qz]?=some (zone Z wz)) :
  RetS Tryz.prog 49 #[.pointer (some ⟨a,0,none⟩),.bool a1] w aDg y (λy v w'=>v=.tuple #[]/\SH r (obj140 Z wz a y::L) w') (λy w'=>SH r (obj140 Z wz a y::L) w'):=by
 refine vS Tryz.func49 rfl Tryz.ntmps49 [(0,_),(1,_)] rfl (by simp) ?_;intro U J Qf j d e;unfold aI at G;obtain⟨f,g,h,X⟩:=aB X;obtain⟨b,X⟩:=(X.pk 1).unpure;refine nz 2 J rfl λU J=>aZ J G rfl (λc G=>?_) λc G=>?_
 ·refine aF (x_v (v:=.agg #[]) J (iP (ps:=#[]) rfl (lL J rfl) (λw=>by kernel_rfl)) rfl λU J=>?_);refine x_v J (aPh bAu rfl rfl (J.ev rfl)) rfl λU J=>aUn J ?_ rfl;replace X:=aG (x:=a0) ((SH.pure_ b X).pk 1);cases G;exact e _ rfl _ _ J.defers X
 replace X:=aG (x:=a0) ((SH.pure_ b X).pk 1);cases G;refine wp_skip (d _ rfl _ _ ?_);exact aHj Tryz.results49 J ⟨rfl,X⟩
theorem rD {a0 c y} (G:fW a0=some y) (X:SH r (obj140 Z wz c a0::L) w) (qz:Nat) (a:L[qz]?=some (zone Z wz)) :
  RetS Tryz.prog 74 #[.pointer (some ⟨c,0,none⟩)] w aDg y (λy v w'=>v=.int .u8 y.1/\SH r (obj140 Z wz c y.2::L) w') (λy w'=>SH r (obj140 Z wz c y::L) w'):=by
 refine vS Tryz.func74 rfl Tryz.ntmps74 [(0,_)] rfl (by simp) ?_;intro U J Qf t O u;unfold fW at G;obtain⟨B,C,D,X⟩:=aB X;obtain⟨e,X⟩:=(X.pk 1).unpure;refine nz 1 J rfl λU J=>ws λE g=>xk 3 J rfl λU J=>aQ rI J rfl λU J=>aN cM (X.cell 0 rfl 0 _ rfl) J rfl λU J=>aX cM (X.rdl 1 (e.rdl qz a) rfl).2.1 J rfl λU J=>xk 1 J rfl λU J=>?_;replace X:=aG (x:=a0) ((SH.pure_ e X).pk 1);refine kA G qZ J rfl (λ_ h=>aE h X (qz+0) a) (λi w X G=>?_) λi v U w z J G=>?_
 ·cases G;exact u _ rfl _ _ J.defers X
 obtain⟨rfl,X⟩:=z;obtain⟨F,H,I,X⟩:=aB X;obtain⟨b,X⟩:=(X.pk 1).unpure;refine wn (g _ _ ?_);refine ws λK j=>xk 2 J rfl λU J=>aQ rI J rfl λU J=>aN cM (X.cell 0 rfl 0 _ rfl) J rfl λU J=>?_;obtain⟨M,f,G⟩:=bnd G;refine fL cM sz5 (X.rdl 1 (b.rdl qz a) rfl) f J rfl λU J=>?_;obtain⟨cs,A,k⟩:=el (X.rdl 1 (b.rdl qz a) rfl) f;obtain rfl:=A;refine aN uu5 (k 0 _ rfl) J rfl λU J=>x_m J rfl λU J=>wn (j _ _ ?_);refine ws λN l=>xk 3 J rfl λU J=>aQ rI J rfl λU J=>aN cM (X.cell 0 rfl 0 _ rfl) J rfl λU J=>?_;obtain⟨m,d,G⟩:=bnd G;obtain⟨n,o,p,q,s⟩:=aFn b d;refine x_v (v:=.slice n o p) J (aD4 q (kX cM sz5 rfl (J.ev rfl) (J.ev rfl) (oJ (X.rdl 1 (b.rdl qz a) rfl) d).1 (oJ (X.rdl 1 (b.rdl qz a) rfl) d).2.2.2.2.2)) rfl λU J=>xk 1 J rfl λU J=>aQ rI J rfl λU J=>eL 0 aD2 J X rfl rfl λU w X J=>wn (l _ _ ?_);refine nz 2 J rfl λU J=>?_;replace X:=(SH.pure_ s X).pk 1;replace X:=aG (x:=(⟨m⟩:S140)) X;cases G;refine wp_ret (t _ rfl _ _ ?_);exact lv Tryz.results74 J rfl ⟨rfl,X⟩
theorem aT {a0 a1 b y} (G:bC a0 a1=some y) (X:SH r (obj140 Z wz b a0::L) w) (qz:Nat) (i:L[qz]?=some (zone Z wz)) :
  RetS Tryz.prog 50 #[.pointer (some ⟨b,0,none⟩),.int .u64 a1] w aDg y (λy v w'=>v=.int .u64 y.1/\SH r (obj140 Z wz b y.2::L) w') (λy w'=>SH r (obj140 Z wz b y::L) w'):=by
 refine vS Tryz.func50 rfl Tryz.ntmps50 [(0,_),(1,_)] rfl (by simp) ?_;intro U J Qf hQ g5 j;unfold bC at G;obtain⟨a3,a4,a5,X⟩:=aB X;obtain⟨a6,X⟩:=(X.pk 1).unpure;refine nz 1 J rfl λU J=>nz 1 J rfl λU J=>nz 1 J rfl λU J=>aA λe7 e8=>?_;obtain⟨e9,a7,G⟩:=bnd G;have c:=G;refine aV a7 (λs U w=>∃u z A,Imm Z wz (kI .u8) u z A s.1/\FR 48 [] U [(0,(pP b)),(1,.int .u64 a1),(5,.int .u64 s.2.1),(6,.int .i64 s.2.2)]/\SH r (blk b 140 [.slice u z A]::L) w) ⟨a3,a4,a5,a6,J.sub _ rfl,X⟩ ?_;intro f1 a8 B G a9 d U w a2;obtain⟨W,C,D⟩:=a8;replace G:eC a1 W C D=some B:=G;unfold eC at G
 try dsimp only at a2
 obtain⟨u,z,A,b1,J,X⟩:=a2;refine wp_seq_k λf2 b2=>aA λf3 b3=>ws λf4 b4=>xk 1 J rfl λU J=>?_;replace X:=(SH.pure_ b1 X).pk 1;replace X:=aG (x:=(⟨W⟩:S140)) X;refine kA G aY3 J rfl (λ_ h=>rD h X (qz+0) i) (λe w X G=>?_) λe v U w a J G=>?_
 ·cases G;have ht:=d _ rfl;subst ht;replace G:=c;replace G:some (.inr e)=some y:=G;cases G;exact j _ rfl _ _ J.defers X
 obtain⟨rfl,X⟩:=a;obtain⟨f5,f6,f7,X⟩:=aB X;obtain⟨E,X⟩:=(X.pk 1).unpure;refine x_m J rfl λU J=>wn (b4 _ _ ?_);refine wp_seq_k λb5 b6=>?_;have S:∀k,eA a1 C D e k=some B->∀p q t (l:Imm Z wz (kI .u8) p q t k) U w,FR 48 [] U [(0,(pP b)),(1,.int .u64 a1),(5,.int .u64 C),(6,.int .i64 D),(7,.int .u8 e.1)]->SH r (blk b 140 [.slice p q t]::L) w->b5 U w:=by
  intro k G p q t l U w J X;unfold eA at G;refine b6 _ _ (ws λf8 b7=>?_);refine xk 2 J rfl λU J=>x_l G J rfl λf9 _ U J G=>eT G J (aR uu5 bZ rfl (J.ev rfl)) rfl λg1 _ U J G=>x_m J rfl λU J=>x_l G J rfl λg2 _ U J G=>?_;obtain⟨b8,G⟩:=aC G;refine eT G J (aCd rfl (J.ev rfl) (J.ev rfl) b8) rfl λg3 _ U J G=>x_l G J rfl λF _ U J G=>x_m J rfl λU J=>wn (b7 _ _ ?_);refine nz 2 J rfl λU J=>aZ J G rfl (λb9 G=>?_) λb9 G=>?_
  ·refine wp_seq_k λc0 c1=>?_;have T:∀m,jP F m=some B->∀H I K (Y:Imm Z wz (kI .u8) H I K m) U w,FR 48 [] U [(0,(pP b)),(5,.int .u64 F)]->SH r (blk b 140 [.slice H I K]::L) w->c0 U w:=by intro m G H I K Y U w J X;unfold jP at G;refine c1 _ _ (nz 2 J rfl λU J=>?_);replace X:=(SH.pure_ Y X).pk 1;replace X:=aG (x:=(⟨m⟩:S140)) X;cases G;refine wp_ret ?_;have ht:=d _ rfl;subst ht;replace G:=c;replace G:some (.inl (F,(⟨m⟩:S140)))=some y:=G;cases G;refine hQ _ rfl _ _ (lv Tryz.results50 J rfl ?_);exact⟨rfl,X⟩
   refine aF (xk 5 J rfl λU J=>?_);refine bcG G (λf G=>?_) λf G=>?_
   ·refine xg 3 f J rfl rfl λU J=>bcG G (λn G=>?_) λn G=>?_
    ·refine xg 2 n J rfl rfl λU J=>aL f J ?_ rfl;refine xg 1 n J rfl rfl λU J=>xg 1 f J rfl rfl λU J=>?_;replace X:=(SH.pure_ l X).pk 1;replace X:=aG (x:=(⟨k⟩:S140)) X;refine kA G qZ J rfl (λ_ h=>aE h X (qz+0) i) (λM w X G=>?_) λM v U w a J G=>?_
     ·cases G;have ht:=d _ rfl;subst ht;replace G:=c;replace G:some (.inr M)=some y:=G;cases G;exact j _ rfl _ _ J.defers X
     obtain⟨rfl,X⟩:=a;obtain⟨c2,c3,c4,X⟩:=aB X;obtain⟨c5,X⟩:=(X.pk 1).unpure;exact wpList_nil (T M.f0 G c2 c3 c4 c5 U w (J.sub _ rfl) X)
    refine xg 2 n J rfl rfl λU J=>aL f J ?_ rfl;refine xg 1 n J rfl rfl λU J=>xg 1 f J rfl rfl λU J=>?_;replace X:=(SH.pure_ l X).pk 1;replace X:=aG (x:=(⟨k⟩:S140)) X;refine kA G qZ J rfl (λ_ h=>aE h X (qz+0) i) (λN w X G=>?_) λN v U w a J G=>?_
    ·cases G;have ht:=d _ rfl;subst ht;replace G:=c;replace G:some (.inr N)=some y:=G;cases G;exact j _ rfl _ _ J.defers X
    obtain⟨rfl,X⟩:=a;obtain⟨c6,c7,c8,X⟩:=aB X;obtain⟨c9,X⟩:=(X.pk 1).unpure;exact wpList_nil (T N.f0 G c6 c7 c8 c9 U w (J.sub _ rfl) X)
   refine xg 7 f J rfl rfl λU J=>?_;replace X:=(SH.pure_ l X).pk 1;replace X:=aG (x:=(⟨k⟩:S140)) X;refine kA G qZ J rfl (λ_ h=>aE h X (qz+0) i) (λO w X G=>?_) λO v U w a J G=>?_
   ·cases G;have ht:=d _ rfl;subst ht;replace G:=c;replace G:some (.inr O)=some y:=G;cases G;exact j _ rfl _ _ J.defers X
   obtain⟨rfl,X⟩:=a;obtain⟨d0,d1,d2,X⟩:=aB X;obtain⟨d3,X⟩:=(X.pk 1).unpure;exact wpList_nil (T O.f0 G d0 d1 d2 d3 U w (J.sub _ rfl) X)
  refine wp_skip (b3 _ _ ?_);refine b2 _ _ (aF ?_);refine x_m J rfl λU J=>x_l G J rfl λg4 _ U J G=>x_m J rfl λU J=>wpList_nil ?_;cases G;exact⟨_,a9 _ rfl,p,q,t,l,J.sub _ rfl,X⟩
 refine aF (xk 4 J rfl λU J=>?_);refine bcG G (λg G=>?_) λg G=>?_
 ·refine xg 7 g J rfl rfl λU J=>?_;replace X:=aG (x:=e.2) ((SH.pure_ E X).pk 1);refine kA G qZ J rfl (λ_ h=>aE h X (qz+0) i) (λP w X G=>?_) λP v U w a J G=>?_
  ·cases G;have ht:=d _ rfl;subst ht;replace G:=c;replace G:some (.inr P)=some y:=G;cases G;exact j _ rfl _ _ J.defers X
  obtain⟨rfl,X⟩:=a;obtain⟨d4,d5,d6,X⟩:=aB X;obtain⟨d7,X⟩:=(X.pk 1).unpure;exact wpList_nil (S P.f0 G d4 d5 d6 d7 U w (J.sub _ rfl) X)
 refine xg 3 g J rfl rfl λU J=>bcG G (λo G=>?_) λo G=>?_
 ·refine xg 2 o J rfl rfl λU J=>aL g J ?_ rfl;refine xg 1 o J rfl rfl λU J=>xg 1 g J rfl rfl λU J=>?_;replace X:=aG (x:=e.2) ((SH.pure_ E X).pk 1);refine kA G qZ J rfl (λ_ h=>aE h X (qz+0) i) (λQ w X G=>?_) λQ v U w a J G=>?_
  ·cases G;have ht:=d _ rfl;subst ht;replace G:=c;replace G:some (.inr Q)=some y:=G;cases G;exact j _ rfl _ _ J.defers X
  obtain⟨rfl,X⟩:=a;obtain⟨d8,d9,e0,X⟩:=aB X;obtain⟨e1,X⟩:=(X.pk 1).unpure;exact wpList_nil (S Q.f0 G d8 d9 e0 e1 U w (J.sub _ rfl) X)
 refine xg 2 o J rfl rfl λU J=>aL g J ?_ rfl;refine xg 1 o J rfl rfl λU J=>xg 1 g J rfl rfl λU J=>?_;replace X:=aG (x:=e.2) ((SH.pure_ E X).pk 1);refine kA G qZ J rfl (λ_ h=>aE h X (qz+0) i) (λR w X G=>?_) λR v U w a J G=>?_
 ·cases G;have ht:=d _ rfl;subst ht;replace G:=c;replace G:some (.inr R)=some y:=G;cases G;exact j _ rfl _ _ J.defers X
 obtain⟨rfl,X⟩:=a;obtain⟨e2,e3,e4,X⟩:=aB X;obtain⟨e5,X⟩:=(X.pk 1).unpure;exact wpList_nil (S R.f0 G e2 e3 e4 e5 U w (J.sub _ rfl) X)
theorem fI {a0 a y} (G:cV a0=some y) (X:SH r (obj140 Z wz a a0::L) w) (qz:Nat) (e:L[qz]?=some (zone Z wz)) :
  RetS Tryz.prog 51 #[.pointer (some ⟨a,0,none⟩)] w aDg y (λy v w'=>v=.int .i64 y.1/\SH r (obj140 Z wz a y.2::L) w') (λy w'=>SH r (obj140 Z wz a y::L) w'):=by
 refine vS Tryz.func51 rfl Tryz.ntmps51 [(0,_)] rfl (by simp) ?_;intro U J Qf f q g;unfold cV at G;refine nz 1 J rfl λU J=>ws λj b=>xk 1 J rfl λU J=>kA G xK J rfl (λ_ h=>aT h X (qz+0) e) (λc w X G=>?_) λc v U w i J G=>?_
 ·cases G;exact g _ rfl _ _ J.defers X
 obtain⟨rfl,X⟩:=i;refine x_m J rfl λU J=>wn (b _ _ ?_);refine ws λk d=>xk 1 J rfl λU J=>eT G J (uN rfl (J.ev rfl) (J.ev rfl) (by decide)) rfl λl _ U J G=>eT G J (aR bZ uu2 rfl (J.ev rfl)) rfl λm _ U J G=>x_m J rfl λU J=>x_l G J rfl λn _ U J G=>eT G J (aR bZ uu2 rfl (J.ev rfl)) rfl λo _ U J G=>x_v J (bAg rfl (J.ev rfl)) rfl λU J=>x_l G J rfl λp _ U J G=>x_m J rfl λU J=>wn (d _ _ ?_);cases G;refine wp_ret (f _ rfl _ _ ?_);exact lv Tryz.results51 J rfl ⟨rfl,X⟩
theorem nO {a0 a1 c y} (G:eZ a0 a1=some y) (X:SH r (obj140 Z wz c a0::L) w) (qz:Nat) (a:L[qz]?=some (zone Z wz)) :
  RetS Tryz.prog 93 #[.pointer (some ⟨c,0,none⟩),.int .i64 a1] w aDg y (λy v w'=>v=str y.1/\SH r (obj140 Z wz c y.2::L) w') (λy w'=>SH r (obj140 Z wz c y::L) w'):=by
 refine vS Tryz.func93 rfl Tryz.ntmps93 [(0,_),(1,_)] rfl (by simp) ?_;intro U J Qf F a2 j;unfold eZ at G;refine nz 1 J rfl λU J=>ws λH k=>xk 2 J rfl λU J=>eT G J (aR uu3 bZ rfl (J.ev rfl)) rfl λI _ U J G=>kA G xK J rfl (λ_ h=>aT h X (qz+0) a) (λg w X G=>?_) λg v U w f J G=>?_
 ·cases G;exact j _ rfl _ _ J.defers X
 obtain⟨rfl,X⟩:=f;obtain⟨K,M,N,X⟩:=aB X;obtain⟨i,X⟩:=(X.pk 1).unpure;refine x_m J rfl λU J=>wn (k _ _ ?_);refine ws λO l=>xk 4 J rfl λU J=>aQ rI J rfl λU J=>aN cM (X.cell 0 rfl 0 _ rfl) J rfl λU J=>aX cM (X.rdl 1 (i.rdl qz a) rfl).2.1 J rfl λU J=>eT G J (aR uu3 bZ rfl (J.ev rfl)) rfl λP _ U J G=>xk 1 J rfl λU J=>?_;replace X:=aG (x:=g.2) ((SH.pure_ i X).pk 1);refine kA G qZ J rfl (λ_ h=>aE h X (qz+0) a) (λm w X G=>?_) λm v U w f J G=>?_
 ·cases G;exact j _ rfl _ _ J.defers X
 obtain⟨rfl,X⟩:=f;obtain⟨Q,R,S,X⟩:=aB X;obtain⟨b,X⟩:=(X.pk 1).unpure;refine wn (l _ _ ?_);refine ws λT n=>xk 2 J rfl λU J=>aQ rI J rfl λU J=>aN cM (X.cell 0 rfl 0 _ rfl) J rfl λU J=>x_m J rfl λU J=>?_;obtain⟨W,d,G⟩:=bnd G;obtain⟨o,p,q,s,t⟩:=aIk b d;refine x_v (v:=.slice o p q) J (aD4 s (mY cM sz5 rfl (J.ev rfl) (J.ev rfl) (oJ (X.rdl 1 (b.rdl qz a) rfl) d).2.2.2.2.1 (oJ (X.rdl 1 (b.rdl qz a) rfl) d).2.2.1)) rfl λU J=>aTs cM uu5 uu9 (X.rdl 1 (t.rdl qz a) rfl) J rfl λU J=>x_m J rfl λU J=>wn (n _ _ ?_);refine ws λY u=>xk 3 J rfl λU J=>aQ rI J rfl λU J=>aN cM (X.cell 0 rfl 0 _ rfl) J rfl λU J=>x_m J rfl λU J=>?_;obtain⟨z,e,G⟩:=bnd G;obtain⟨A,B,C,D,E⟩:=aFn b e;refine x_v (v:=.slice A B C) J (aD4 D (kX cM sz5 rfl (J.ev rfl) (J.ev rfl) (oJ (X.rdl 1 (b.rdl qz a) rfl) e).1 (oJ (X.rdl 1 (b.rdl qz a) rfl) e).2.2.2.2.2)) rfl λU J=>xk 1 J rfl λU J=>aQ rI J rfl λU J=>eL 0 aD2 J X rfl rfl λU w X J=>wn (u _ _ ?_);refine nz 2 J rfl λU J=>?_;replace X:=(SH.pure_ E X).pk 1;replace X:=aG (x:=(⟨z⟩:S140)) X;cases G;refine wp_ret (F _ rfl _ _ ?_);exact lv Tryz.results93 J rfl ⟨rfl,X⟩
theorem aDe {a0 K a y} (G:nA a0 K=some y) (X:SH r (obj140 Z wz a K::L) w) (qz:Nat) (hZ:L[qz]?=some (zone Z wz)) :
  RetS Tryz.prog 128 #[.int .i64 a0,.func (.func 51) #[.pointer (some ⟨a,0,none⟩)] #[]] w aDg y (λy v w'=>∃ (S:Option Addr) (T:Nat) (W:Nat),v=.slice S T W/\SH r (own (kI .i64) 2 S T W y.1::obj140 Z wz a y.2::L) w') (λy w'=>SH r (obj140 Z wz a y::L) w'):=by
 refine vS Tryz.func128 rfl Tryz.ntmps128 [(0,_),(1,_)] rfl (by simp) ?_;intro U J Qf hQ e1 d1;unfold nA at G;obtain⟨a1,a2,a3,X⟩:=aB X;obtain⟨a4,X⟩:=(X.pk 1).unpure;refine nz 1 J rfl λU J=>nz 1 J rfl λU J=>wp_seq_k λd4 a5=>nz 2 J rfl λU J=>aA λM a6=>?_;have d2:∀g D,qW g D=some y->∀E F H i j k (N:Imm Z wz (kI .u8) E F H g) U w,FR 16 [] U [(1,.func (.func 51) #[.pointer (some ⟨a,0,none⟩)] #[]),(5,.slice i j k)]->SH r (blk a 140 [.slice E F H]::own (kI .i64) 2 i j k D::L) w->M U w:=by intro g D G E F H i j k N U w J X;unfold qW at G;refine a6 _ _ (a5 _ _ ?_);refine nz 2 J rfl λU J=>?_;replace X:=(SH.pure_ N X).pk 1;replace X:=(aG (x:=(⟨g⟩:S140)) X).pk 1;cases G;refine wp_ret (hQ _ rfl _ _ ?_);exact lv Tryz.results128 J rfl ⟨i,j,k,rfl,X⟩
 obtain⟨a7,a8,G⟩:=bnd G;have a9:=G;have b1:∀c f,(.inl (c,f))=a7->∀l m n o p q (O:Imm Z wz (kI .u8) l m n c) U w,FR 16 [] U [(1,.func (.func 51) #[.pointer (some ⟨a,0,none⟩)] #[]),(5,.slice o p q)]->SH r (blk a 140 [.slice l m n]::own (kI .i64) 2 o p q f::L) w->M U w:=by intro c f ht l m n o p q O U w J X;subst ht;replace G:pG c f=some y:=G;unfold pG at G;exact d2 c f G l m n o p q O U w (J.sub _ rfl) X
 replace X:=(SH.nil_own (d:=(kI .i64)) (e:=2) X).pk 1;refine aV a8 (λs U w=>∃t u z A B C,Imm Z wz (kI .u8) t u z s.1/\FR 16 [] U [(1,.func (.func 51) #[.pointer (some ⟨a,0,none⟩)] #[]),(5,.slice A B C),(6,.int .i64 a0),(7,.int .i64 s.2.2)]/\SH r (blk a 140 [.slice t u z]::own (kI .i64) 2 A B C s.2.1::L) w) ⟨a1,a2,a3,none,0,0,a4,J.sub _ rfl,X⟩ ?_;intro d5 b2 b3 G b4 P U w Y;obtain⟨I,Q,b5⟩:=b2;replace G:dJ a0 I Q b5=some b3:=G;unfold dJ at G
 try dsimp only at Y
 obtain⟨t,u,z,A,B,C,R,J,X⟩:=Y;refine nz 1 J rfl λU J=>wp_seq_k λd6 b6=>aZ J G rfl (λb7 G=>?_) λb7 G=>?_
 ·refine wp_skip (b6 _ _ ?_);refine wp_seq_k λd7 b8=>aA λd8 b9=>aF (xk 2 J rfl λU J=>?_);replace X:=(SH.pure_ R X).pk 1;replace X:=aG (x:=(⟨I⟩:S140)) X;refine kA G aL5 J rfl (λ_ h=>fI h X (qz+1) hZ) (λb w X G=>?_) λb v U w hR J G=>?_
  ·replace X:=X.drop 1;cases G;have ht:=P _ rfl;subst ht;replace G:=a9;replace G:some (.inr b)=some y:=G;cases G;exact d1 _ rfl _ _ J.defers X
  obtain⟨rfl,X⟩:=hR;obtain⟨c0,c1,c2,X⟩:=aB X;obtain⟨c3,X⟩:=(X.pk 1).unpure;refine kK (d:=(kI .i64)) (e:=2) (ps:=#[(0,.int .i64 b.1)]) (cells:=[.int .i64 b.1]) (xs:=[b.1]) (λw=>by kernel_rfl) rfl ⟨[.int .i64 b.1],_,rfl,rfl,rfl⟩ J X rfl λd9 U w X J=>?_;obtain⟨c4,G⟩:=aC G;have hr:=X.rd 0 rfl;refine lB 2 mC bU J X hr.1 hr.2.1 c4 rfl rfl λc5 c6 c7 U w X J=>x_m J rfl λU J=>wpList_nil (b9 _ _ ?_);refine b8 _ _ (aF ?_);refine x_l G J rfl λe0 _ U J G=>x_m J rfl λU J=>wpList_nil ?_;replace X:=X.drop 1 |>.pk 1;cases G;exact⟨_,b4 _ rfl,c0,c1,c2,c5,c6,c7,c3,J.sub _ rfl,X⟩
 cases G;exact wp_exit (b1 I Q (P _ rfl) t u z A B C R U w (J.sub _ rfl) X)
theorem aGg {a0 a1 a y} (G:sQ a0 a1=some y) (X:SH r (obj140 Z wz a a0::L) w) (qz:Nat) (g:L[qz]?=some (zone Z wz)) :
  RetS Tryz.prog 129 #[.pointer (some ⟨a,0,none⟩),.int .i64 a1] w aDg y (λy v w'=>∃ (B0:Option Addr) (m0:Nat) (d0:Nat),v=.slice B0 m0 d0/\SH r (own (kI .i64) 2 B0 m0 d0 y.1::obj140 Z wz a y.2::L) w') (λy w'=>SH r (obj140 Z wz a y::L) w'):=by
 refine vS Tryz.func129 rfl Tryz.ntmps129 [(0,_),(1,_)] rfl (by simp) ?_;intro U J Qf hQ o1 C;unfold sQ at G;refine nz 1 J rfl λU J=>ws λk7 d2=>xk 1 J rfl λU J=>kA G aL5 J rfl (λ_ h=>fI h X (qz+0) g) (λe w X G=>?_) λe v U w i J G=>?_
 ·cases G;exact C _ rfl _ _ J.defers X
 obtain⟨rfl,X⟩:=i;refine x_m J rfl λU J=>kA G aY3 J rfl (λ_ h=>rD h X (qz+0) g) (λa4 w X G=>?_) λa4 v U w i J G=>?_
 ·cases G;exact C _ rfl _ _ J.defers X
 obtain⟨rfl,X⟩:=i;obtain⟨k8,k9,l0,X⟩:=aB X;obtain⟨a5,X⟩:=(X.pk 1).unpure;refine eT G J (aR uu5 uu3 rfl (J.ev rfl)) rfl λj _ U J G=>nk 2 J rfl λU J=>d2 _ _ (wp_seq_k λd3 d4=>?_);have c9:∀a6,oD a1 e j a6=some y->∀F H I (a7:Imm Z wz (kI .u8) F H I a6) U w,FR 98 [] U [(0,(pP a)),(1,.int .i64 a1),(5,.int .i64 e.1),(6,.int .i64 j)]->SH r (blk a 140 [.slice F H I]::L) w->d3 U w:=by
  intro a6 G F H I a7 U w J X;unfold oD at G;refine d4 _ _ (ws λl1 d5=>?_);refine xk 1 J rfl λU J=>?_;obtain⟨d6,G⟩:=aC G;refine aO3 (d:=(kI .i64)) (bytes:=8) 0 mC rfl bU d6 J X rfl λb U w X J=>x_m J rfl λU J=>wn (d5 _ _ ?_);refine wp_seq_k λl2 d7=>ws λl3 d8=>xk 2 J rfl λU J=>aQ rI J rfl λU J=>aN cM (X.cell 1 rfl 0 _ rfl) J rfl λU J=>aX cM (X.rdl 2 (a7.rdl qz g) rfl).2.1 J rfl λU J=>x_l G J rfl λa8 _ U J G=>x_m J rfl λU J=>wn (d8 _ _ ?_);refine aA λb5 d9=>?_;have k5:∀a9 n,rJ e a9 n=some y->∀k l m (e0:Imm Z wz (kI .u8) k l m a9) U w,FR 98 [] U [(0,(pP a)),(5,.int .i64 e.1),(7,.slice (some ⟨b,0,none⟩) a1.toNat a1.toNat)]->SH r (blk a 140 [.slice k l m]::own (kI .i64) 2 (some ⟨b,0,none⟩) a1.toNat a1.toNat n::L) w->b5 U w:=by
   intro a9 n G k l m e0 U w J X;unfold rJ at G;refine d9 _ _ (d7 _ _ ?_);refine wp_seq_k λl4 e1=>ws λl5 e2=>xk 1 J rfl λU J=>aX bU (X.rd 1 rfl).2.1 J rfl λU J=>x_m J rfl λU J=>wn (e2 _ _ ?_);refine aA λb6 e3=>?_;have k6:∀b1,vK b1=some y->∀U w,FR 98 [] U [(0,(pP a)),(7,.slice (some ⟨b,0,none⟩) a1.toNat a1.toNat)]->SH r (blk a 140 [.slice k l m]::own (kI .i64) 2 (some ⟨b,0,none⟩) a1.toNat a1.toNat b1::L) w->b6 U w:=by intro b1 G U w J X;unfold vK at G;refine e3 _ _ (e1 _ _ ?_);refine ws λl6 e4=>xk 2 J rfl λU J=>aQ rI J rfl λU J=>eL 0 aD2 J X rfl rfl λU w X J=>wn (e4 _ _ ?_);refine nz 2 J rfl λU J=>?_;replace X:=(SH.pure_ (Imm.nil:Imm Z wz (kI .u8) none 0 0 []) X).pk 1;replace X:=(aG (x:=(⟨[]⟩:S140)) X).pk 1;cases G;refine wp_ret (hQ _ rfl _ _ ?_);exact lv Tryz.results129 J rfl ⟨some ⟨b,0,none⟩,a1.toNat,a1.toNat,rfl,X⟩
   obtain⟨e5,e6,G⟩:=bnd G;have e7:∀o,(o)=e5->∀U w,FR 98 [] U [(0,(pP a)),(7,.slice (some ⟨b,0,none⟩) a1.toNat a1.toNat)]->SH r (blk a 140 [.slice k l m]::own (kI .i64) 2 (some ⟨b,0,none⟩) a1.toNat a1.toNat o::L) w->b6 U w:=by intro o ht U w J X;subst ht;replace G:tB o=some y:=G;unfold tB at G;exact k6 o G U w (J.sub _ rfl) X
   refine aV e6 (λs U w=>FR 98 [] U [(0,(pP a)),(5,.int .i64 e.1),(7,.slice (some ⟨b,0,none⟩) a1.toNat a1.toNat),(82,.int .i64 (n.length:Int)),(83,.int .i64 s.2)]/\SH r (blk a 140 [.slice k l m]::own (kI .i64) 2 (some ⟨b,0,none⟩) a1.toNat a1.toNat s.1::L) w) ⟨J.sub _ rfl,X⟩ ?_;intro l7 e8 e9 G f1 f2 U w D;obtain⟨b7,f3⟩:=e8;replace G:gP e n b7 f3=some e9:=G;unfold gP at G
   try dsimp only at D
   obtain⟨J,X⟩:=D;refine nz 1 J rfl λU J=>wp_seq_k λl8 f4=>aZ J G rfl (λf5 G=>?_) λf5 G=>?_
   ·refine wp_skip (f4 _ _ ?_);refine wp_seq_k λl9 f6=>aA λm1 f7=>nz 2 J rfl λU J=>aF (xk 2 J rfl λU J=>?_);obtain⟨m2,M,G⟩:=bnd G;refine fL bU sz2 (X.rd 1 rfl) M J rfl λU J=>?_;obtain⟨cs,E,f8⟩:=el (X.rd 1 rfl) M;obtain rfl:=E;refine aN uu2 (f8 0 _ rfl) J rfl λU J=>x_m J rfl λU J=>x_l G J rfl λb8 _ U J G=>fL bU sz2 (X.rd 1 rfl) M J rfl λU J=>aR5 (z':=b8) (off:=0) (vs:=[.int .i64 b8]) 1 sz2 J X rfl (hO M).2.2 (λc h=>by cases h; rfl) (λU w X J=>?_) rfl rfl rfl rfl rfl rfl rfl rfl;refine wpList_nil (f7 _ _ ?_);refine f6 _ _ (aF ?_);refine x_l G J rfl λm3 _ U J G=>x_m J rfl λU J=>wpList_nil ?_;replace X:=X.pk 1;cases G;exact⟨_,f1 _ rfl,J.sub _ rfl,X⟩
   cases G;exact wp_exit (e7 b7 (f2 _ rfl) U w (J.sub _ rfl) X)
  obtain⟨f9,g1,G⟩:=bnd G;have g2:=G;have g3:∀p q,(.inl (p,q))=f9->∀N O P (b9:Imm Z wz (kI .u8) N O P p) U w,FR 98 [] U [(0,(pP a)),(5,.int .i64 e.1),(7,.slice (some ⟨b,0,none⟩) a1.toNat a1.toNat)]->SH r (blk a 140 [.slice N O P]::own (kI .i64) 2 (some ⟨b,0,none⟩) a1.toNat a1.toNat q::L) w->b5 U w:=by intro p q ht N O P b9 U w J X;subst ht;replace G:pA e p q=some y:=G;unfold pA at G;exact k5 p q G N O P b9 U w (J.sub _ rfl) X
  replace X:=X.pk 1;refine aV g1 (λs U w=>∃t u z,Imm Z wz (kI .u8) t u z s.1/\FR 98 [] U [(0,(pP a)),(1,.int .i64 a1),(5,.int .i64 e.1),(6,.int .i64 j),(7,.slice (some ⟨b,0,none⟩) a1.toNat a1.toNat),(40,.int .i64 a8),(41,.int .i64 s.2.2)]/\SH r (blk a 140 [.slice t u z]::own (kI .i64) 2 (some ⟨b,0,none⟩) a1.toNat a1.toNat s.2.1::L) w) ⟨F,H,I,a7,J.sub _ rfl,X⟩ ?_;intro m4 g4 c0 G g5 c1 U w D;obtain⟨Q,R,A⟩:=g4;replace G:iC a1 j a8 Q R A=some c0:=G;unfold iC at G
  try dsimp only at D
  obtain⟨t,u,z,B,J,X⟩:=D;refine nz 1 J rfl λU J=>wp_seq_k λm5 g6=>aZ J G rfl (λg7 G=>?_) λg7 G=>?_
  ·refine wp_skip (g6 _ _ ?_);refine wp_seq_k λm6 g8=>aA λg9 h0=>?_;have d1:∀b2 b3,lW A b2 b3=some c0->∀S T W (c2:Imm Z wz (kI .u8) S T W b2) U w,FR 98 [] U [(0,(pP a)),(1,.int .i64 a1),(5,.int .i64 e.1),(6,.int .i64 j),(7,.slice (some ⟨b,0,none⟩) a1.toNat a1.toNat),(40,.int .i64 a8),(41,.int .i64 A)]->SH r (blk a 140 [.slice S T W]::own (kI .i64) 2 (some ⟨b,0,none⟩) a1.toNat a1.toNat b3::L) w->g9 U w:=by intro b2 b3 G S T W c2 U w J X;unfold lW at G;refine h0 _ _ (g8 _ _ ?_);refine aF (x_l G J rfl λm7 _ U J G=>?_);refine x_m J rfl λU J=>wpList_nil ?_;cases G;exact⟨_,g5 _ rfl,S,T,W,c2,J.sub _ rfl,X⟩
   refine nz 2 J rfl λU J=>ws λm8 h1=>xk 2 J rfl λU J=>aQ rI J rfl λU J=>aN cM (X.cell 0 rfl 0 _ rfl) J rfl λU J=>x_m J rfl λU J=>eT G J (aJs rfl (J.ev rfl) (J.ev rfl) (by decide)) rfl λm9 _ U J G=>?_;obtain⟨n0,c3,G⟩:=bnd G;refine fL cM sz5 (X.rdl 2 (B.rdl qz g) rfl) c3 J rfl λU J=>?_;obtain⟨cs,E,h2⟩:=el (X.rdl 2 (B.rdl qz g) rfl) c3;obtain rfl:=E;refine aN uu5 (h2 0 _ rfl) J rfl λU J=>x_m J rfl λU J=>eT G J (aIu rfl (J.ev rfl) (J.ev rfl) (by decide)) rfl λn1 _ U J G=>?_;obtain⟨h3,G⟩:=aC G;refine eT G J (uN rfl (J.ev rfl) (J.ev rfl) h3) rfl λn2 _ U J G=>eT G J (aR uu5 bZ rfl (J.ev rfl)) rfl λn3 _ U J G=>x_l G J rfl λh4 _ U J G=>x_m J rfl λU J=>wn (h1 _ _ ?_);refine wp_seq_k λn4 h5=>ws λn5 h6=>xk 3 J rfl λU J=>x_l G J rfl λn6 _ U J G=>nk 1 J rfl λU J=>h6 _ _ (aZ J G rfl (λh7 G=>?_) λh7 G=>?_)
   ·refine ws λn7 h8=>xk 3 J rfl λU J=>?_;replace X:=(SH.pure_ B X).pk 1;replace X:=aG (x:=(⟨Q⟩:S140)) X;refine kA G qZ J rfl (λ_ h=>aE h X (qz+1) g) (λb4 w X G=>?_) λb4 v U w i J G=>?_
    ·replace X:=X.drop 1;cases G;have ht:=c1 _ rfl;subst ht;replace G:=g2;replace G:some (.inr b4)=some y:=G;cases G;exact C _ rfl _ _ J.defers X
    obtain⟨rfl,X⟩:=i;obtain⟨h9,i0,i1,X⟩:=aB X;obtain⟨i2,X⟩:=(X.pk 1).unpure;refine wn (h8 _ _ ?_);exact wp_exit (d1 b4.f0 R G h9 i0 i1 i2 U w (J.sub _ rfl) X)
   refine wp_skip (h5 _ _ ?_);refine wD [0,0,0,6,15,31,0,0,0,384,960,1984,4095,8191,16383] [14] rfl J X (by kernel_rfl) λw X=>?_;obtain⟨i3,G⟩:=aC G;obtain⟨Y,i4,G⟩:=gO G;obtain⟨i5,a2,G⟩:=bnd G;obtain⟨cs,E,i6⟩:=el (X.rd 1 rfl) a2;obtain rfl:=E;obtain⟨i7,G⟩:=aC G;obtain⟨i8,i9,G⟩:=gO G;obtain⟨j0,G⟩:=aC G;obtain⟨j1,j2,G⟩:=gO G;obtain⟨j3,j4,G⟩:=gO G;obtain⟨a3,j5,G⟩:=gO G;refine⟨[(0,.slice (some ⟨b,0,none⟩) a1.toNat a1.toNat),(1,.int .i64 A),(2,.int .i64 j),(3,.int .i64 Y),(4,.pointer (some (ea (some ⟨b,0,none⟩) (Y.toNat * 1)))),(5,.int .i64 i5),(6,.int .u64 h4),(7,.int .i64 A),(8,.int .i64 j),(9,.int .i64 i8),(10,.int .u64 j1),(11,.int .i64 j3),(12,.int .i64 a3),(13,.pointer (some (ea (some ⟨b,0,none⟩) (Y.toNat * 1))))],?_⟩;refine dF [0,1,2,3,4,5,6,7,8,9,10,11,12,13] [14] (by kernel_rfl) ⟨pm rfl,pm rfl,pm rfl,pt [(67,_),(68,_)] rfl λU J=>cU i4 (aJs rfl (J.ev rfl) (J.ev rfl) i3),pt [(66,_),(69,_)] rfl (λU J=>eS bU sz2 (X.rd 1 rfl) a2 J rfl rfl rfl),pt [(70,_)] rfl (λU J=>aP uu2 (i6 0 _ rfl) J rfl rfl rfl),pm rfl,pm rfl,pm rfl,pt [(73,_),(74,_)] rfl λU J=>cU i9 (aIu rfl (J.ev rfl) (J.ev rfl) i7),pt [(72,_),(75,_)] rfl λU J=>cU j2 (aCd rfl (J.ev rfl) (J.ev rfl) j0),pt [(76,_)] rfl λU J=>cU j4 (aR bZ uu2 rfl (J.ev rfl)),pt [(71,_),(77,_)] rfl λU J=>cU j5 (aKp rfl (J.ev rfl) (J.ev rfl)),pt [(66,_),(69,_)] rfl (λU J=>eS bU sz2 (X.rd 1 rfl) a2 J rfl rfl rfl),trivial⟩ ⟨et [(78,_),(79,_)] rfl (λU J K hK=>?_),trivial⟩;refine aH6 (z':=a3) (off:=0) (vs:=[.int .i64 a3]) 1 sz2 J X rfl (hO a2).2.2 (λc h=>by cases h; rfl) (λw X=>?_) rfl rfl rfl rfl rfl rfl;refine hK _ [] _ rfl (qA [] (by kernel_rfl) trivial ⟨by kernel_rfl,by kernel_rfl⟩ [(0,_),(1,_),(5,_),(6,_),(7,_),(40,_),(41,_)] rfl (λU J=>?_));replace X:=X.pk 1;exact d1 Q (R.set Y.toNat a3) G t u z B U w (J.sub _ rfl) X
  cases G;exact wp_exit (g3 Q R (c1 _ rfl) t u z B U w (J.sub _ rfl) X)
 refine aF (xk 4 J rfl λU J=>?_);refine bcG G (λf G=>?_) λf G=>?_
 ·refine xg 2 f J rfl rfl λU J=>aL f J ?_ rfl;refine aQ rI J rfl λU J=>aL f J ?_ rfl;refine aN cM (X.cell 0 rfl 0 _ rfl) J rfl λU J=>aL f J ?_ rfl;refine aX cM (X.rdl 1 (a5.rdl qz g) rfl).2.1 J rfl λU J=>xg 2 f J rfl rfl λU J=>aL f J ?_ rfl;refine x_l G J rfl λn8 _ U J G=>aL f J ?_ rfl;refine x_l G J rfl λn9 _ U J G=>aL f J ?_ rfl;refine eT G J (aJs rfl (J.ev rfl) (J.ev rfl) (by decide)) rfl λo0 _ U J G=>xg 2 f J rfl rfl λU J=>?_;replace X:=aG (x:=a4.2) ((SH.pure_ a5 X).pk 1);refine kA G qZ J rfl (λ_ h=>aE h X (qz+0) g) (λc4 w X G=>?_) λc4 v U w i J G=>?_
  ·cases G;exact C _ rfl _ _ J.defers X
  obtain⟨rfl,X⟩:=i;obtain⟨j6,j7,j8,X⟩:=aB X;obtain⟨j9,X⟩:=(X.pk 1).unpure;exact wpList_nil (c9 c4.f0 G j6 j7 j8 j9 U w (J.sub _ rfl) X)
 refine xg 12 f J rfl rfl λU J=>?_;replace X:=aG (x:=a4.2) ((SH.pure_ a5 X).pk 1);refine kA G qZ J rfl (λ_ h=>aE h X (qz+0) g) (λc5 w X G=>?_) λc5 v U w i J G=>?_
 ·cases G;exact C _ rfl _ _ J.defers X
 obtain⟨rfl,X⟩:=i;obtain⟨k0,k1,k2,X⟩:=aB X;obtain⟨k3,X⟩:=(X.pk 1).unpure;exact wpList_nil (c9 c5.f0 G k0 k1 k2 k3 U w (J.sub _ rfl) X)
theorem aDj {a0 a y} (G:tN a0=some y) (X:SH r (obj140 Z wz a a0::L) w) (qz:Nat) (f:L[qz]?=some (zone Z wz)) :
  RetS Tryz.prog 111 #[.pointer (some ⟨a,0,none⟩)] w aDg y (λy v w'=>∃ (B0:Option Addr) (m0:Nat) (d0:Nat),v=.slice B0 m0 d0/\SH r (own (kI .i64) 2 B0 m0 d0 y.1::obj140 Z wz a y.2::L) w') (λy w'=>SH r (obj140 Z wz a y::L) w'):=by
 refine vS Tryz.func111 rfl Tryz.ntmps111 [(0,_)] rfl (by simp) ?_;intro U J Qf hQ t1 g;unfold tN at G;refine nz 1 J rfl λU J=>ws λq1 h6=>xk 1 J rfl λU J=>kA G aY3 J rfl (λ_ h=>rD h X (qz+0) f) (λh7 w X G=>?_) λh7 v U w b J G=>?_
 ·cases G;exact g _ rfl _ _ J.defers X
 obtain⟨rfl,X⟩:=b;refine x_m J rfl λU J=>wn (h6 _ _ ?_);refine ws λq2 h8=>xk 3 J rfl λU J=>kA G qZ J rfl (λ_ h=>aE h X (qz+0) f) (λh9 w X G=>?_) λh9 v U w b J G=>?_
 ·cases G;exact g _ rfl _ _ J.defers X
 obtain⟨rfl,X⟩:=b;refine wn (h8 _ _ ?_);refine ws λq3 i0=>xk 1 J rfl λU J=>kA G xK J rfl (λ_ h=>aT h X (qz+0) f) (λm w X G=>?_) λm v U w b J G=>?_
 ·cases G;exact g _ rfl _ _ J.defers X
 obtain⟨rfl,X⟩:=b;obtain⟨B,C,D,X⟩:=aB X;obtain⟨k,X⟩:=(X.pk 1).unpure;refine eT G J (aR bZ uu3 rfl (J.ev rfl)) rfl λj _ U J G=>x_m J rfl λU J=>wn (i0 _ _ ?_);refine nz 1 J rfl λU J=>wp_seq_k λq4 i1=>nz 1 J rfl λU J=>aA λi2 i3=>?_;have l:∀E e3,kP E e3=some y->∀e4 e5 e6 F H I (f5:Imm Z wz (kI .u8) e4 e5 e6 E) U w,FR 70 [] U [(0,(pP a)),(5,.slice F H I)]->SH r (blk a 140 [.slice e4 e5 e6]::own (kI .i64) 2 F H I e3::L) w->i2 U w:=by intro E e3 G e4 e5 e6 F H I f5 U w J X;unfold kP at G;refine i3 _ _ (i1 _ _ ?_);refine nz 2 J rfl λU J=>?_;replace X:=(SH.pure_ f5 X).pk 1;replace X:=(aG (x:=(⟨E⟩:S140)) X).pk 1;cases G;refine wp_ret (hQ _ rfl _ _ ?_);exact lv Tryz.results111 J rfl ⟨F,H,I,rfl,X⟩
 refine nz 2 J rfl λU J=>aZ J G rfl (λi4 G=>?_) λi4 G=>?_
 ·refine aF (xk 2 J rfl λU J=>?_);refine x_v J (gW rfl (lU (vals:=#[.pointer (some ⟨a,0,none⟩)]) J rfl) (lU (vals:=#[]) J rfl)) rfl λU J=>?_;replace X:=aG (x:=m.2) ((SH.pure_ k X).pk 1);refine kA G aZz J rfl (λ_ h=>aDe h X (qz+0) f) (λe7 w X G=>?_) λe7 v U w b J G=>?_
  ·cases G;exact g _ rfl _ _ J.defers X
  obtain⟨i5,i6,i7,rfl,X⟩:=b;obtain⟨i8,i9,j0,X⟩:=aB (X.pk 1);obtain⟨j1,X⟩:=(X.pk 1).unpure;exact x_m J rfl λU J=>wpList_nil (l e7.2.f0 e7.1 G i8 i9 j0 i5 i6 i7 j1 U w (J.sub _ rfl) X)
 refine nz 2 J rfl λU J=>aZ J G rfl (λj2 G=>?_) λj2 G=>?_
 ·refine nz 1 J rfl λU J=>nz 2 J rfl λU J=>aA λf6 j3=>?_;have p8:∀K M,yC K M=some y->∀N O P Q R S (f7:Imm Z wz (kI .u8) N O P K) U w,FR 70 [] U [(0,(pP a)),(5,.slice Q R S)]->SH r (blk a 140 [.slice N O P]::own (kI .i64) 2 Q R S M::L) w->f6 U w:=by intro K M G N O P Q R S f7 U w J X;unfold yC at G;exact j3 _ _ (l K M G N O P Q R S f7 U w (J.sub _ rfl) X)
  obtain⟨t183,j4,G⟩:=bnd G;have j5:=G;have j6:∀n o,(.inl (n,o))=t183->∀T W Y a1 a2 a3 (f8:Imm Z wz (kI .u8) T W Y n) U w,FR 70 [] U [(0,(pP a)),(5,.slice a1 a2 a3)]->SH r (blk a 140 [.slice T W Y]::own (kI .i64) 2 a1 a2 a3 o::L) w->f6 U w:=by intro n o ht T W Y a1 a2 a3 f8 U w J X;subst ht;replace G:vU n o=some y:=G;unfold vU at G;exact p8 n o G T W Y a1 a2 a3 f8 U w (J.sub _ rfl) X
  replace X:=(SH.nil_own (d:=(kI .i64)) (e:=2) X).pk 1;refine aV j4 (λs U w=>∃a4 a5 a6 a7 a8 a9,Imm Z wz (kI .u8) a4 a5 a6 s.1/\FR 70 [] U [(0,(pP a)),(5,.slice a7 a8 a9),(6,.int .i64 s.2.2.1),(26,.int .i64 j),(27,.int .i64 s.2.2.2)]/\SH r (blk a 140 [.slice a4 a5 a6]::own (kI .i64) 2 a7 a8 a9 s.2.1::L) w) ⟨B,C,D,none,0,0,k,J.sub _ rfl,X⟩ ?_;intro q5 j7 j8 G j9 f9 U w i;obtain⟨e8,g1,k0,k1⟩:=j7;replace G:hN j e8 g1 k0 k1=some j8:=G;unfold hN at G
  try dsimp only at i
  obtain⟨a4,a5,a6,a7,a8,a9,g2,J,X⟩:=i;refine nz 1 J rfl λU J=>wp_seq_k λq6 k2=>aZ J G rfl (λk3 G=>?_) λk3 G=>?_
  ·refine wp_skip (k2 _ _ ?_);refine wp_seq_k λq7 k4=>aA λq8 k5=>ws λq9 k6=>xk 2 J rfl λU J=>?_;replace X:=(SH.pure_ g2 X).pk 1;replace X:=aG (x:=(⟨e8⟩:S140)) X;refine kA G aL5 J rfl (λ_ h=>fI h X (qz+1) f) (λg3 w X G=>?_) λg3 v U w b J G=>?_
   ·replace X:=X.drop 1;cases G;have ht:=f9 _ rfl;subst ht;replace G:=j5;replace G:some (.inr g3)=some y:=G;cases G;exact g _ rfl _ _ J.defers X
   obtain⟨rfl,X⟩:=b;obtain⟨k7,k8,k9,X⟩:=aB X;obtain⟨l0,X⟩:=(X.pk 1).unpure;refine x_l G J rfl λb1 _ U J G=>x_m J rfl λU J=>wn (k6 _ _ ?_);refine aF (xk 2 J rfl λU J=>?_);refine kK (d:=(kI .i64)) (e:=2) (ps:=#[(0,.int .i64 b1)]) (cells:=[.int .i64 b1]) (xs:=[b1]) (λw=>by kernel_rfl) rfl ⟨[.int .i64 b1],_,rfl,rfl,rfl⟩ J X rfl λr0 U w X J=>?_;obtain⟨l1,G⟩:=aC G;have hr:=X.rd 0 rfl;refine lB 2 mC bU J X hr.1 hr.2.1 l1 rfl rfl λl2 l3 l4 U w X J=>x_m J rfl λU J=>wpList_nil (k5 _ _ ?_);refine k4 _ _ (aF ?_);refine x_l G J rfl λr1 _ U J G=>x_m J rfl λU J=>wpList_nil ?_;replace X:=X.drop 1 |>.pk 1;cases G;exact⟨_,j9 _ rfl,k7,k8,k9,l2,l3,l4,l0,J.sub _ rfl,X⟩
  cases G;exact wp_exit (j6 e8 g1 (f9 _ rfl) a4 a5 a6 a7 a8 a9 g2 U w (J.sub _ rfl) X)
 refine nz 2 J rfl λU J=>aZ J G rfl (λl5 G=>?_) λl5 G=>?_
 ·refine aA λg4 l6=>?_;have p9:∀b2 b3,yA b2 b3=some y->∀b4 b5 b6 b7 b8 b9 (g5:Imm Z wz (kI .u8) b4 b5 b6 b2) U w,FR 70 [] U [(0,(pP a)),(5,.slice b7 b8 b9)]->SH r (blk a 140 [.slice b4 b5 b6]::own (kI .i64) 2 b7 b8 b9 b3::L) w->g4 U w:=by intro b2 b3 G b4 b5 b6 b7 b8 b9 g5 U w J X;unfold yA at G;exact l6 _ _ (l b2 b3 G b4 b5 b6 b7 b8 b9 g5 U w (J.sub _ rfl) X)
  obtain⟨l7,l8,G⟩:=bnd G;have g6:=G;have l9:∀p q,(.inl (p,q))=l7->∀c0 c1 c2 c3 c4 c5 (g7:Imm Z wz (kI .u8) c0 c1 c2 p) U w,FR 70 [] U [(0,(pP a)),(5,.slice c3 c4 c5)]->SH r (blk a 140 [.slice c0 c1 c2]::own (kI .i64) 2 c3 c4 c5 q::L) w->g4 U w:=by intro p q ht c0 c1 c2 c3 c4 c5 g7 U w J X;subst ht;replace G:vI p q=some y:=G;unfold vI at G;exact p9 p q G c0 c1 c2 c3 c4 c5 g7 U w (J.sub _ rfl) X
  replace X:=(SH.nil_own (d:=(kI .i64)) (e:=2) X).pk 1;refine aV l8 (λs U w=>∃c6 c7 c8 t u z,Imm Z wz (kI .u8) c6 c7 c8 s.1/\FR 70 [] U [(0,(pP a)),(4,.int .i64 j),(5,.slice t u z)]/\SH r (blk a 140 [.slice c6 c7 c8]::own (kI .i64) 2 t u z s.2::L) w) ⟨B,C,D,none,0,0,k,J.sub _ rfl,X⟩ ?_;intro r2 m1 e9 G m2 f1 U w i;obtain⟨f2,g8⟩:=m1;replace G:dW j f2 g8=some e9:=G;unfold dW at G
  try dsimp only at i
  obtain⟨c6,c7,c8,t,u,z,g9,J,X⟩:=i;refine wp_seq_k λr3 m3=>ws λr4 m4=>xk 1 J rfl λU J=>aX bU (X.rd 1 rfl).2.1 J rfl λU J=>nk 2 J rfl λU J=>m4 _ _ (aZ J G rfl (λm5 G=>?_) λm5 G=>?_)
  ·refine wp_skip (m3 _ _ ?_);refine aA λr5 m6=>ws λr6 m7=>xk 1 J rfl λU J=>?_;replace X:=(SH.pure_ g9 X).pk 1;replace X:=aG (x:=(⟨f2⟩:S140)) X;refine kA G aL5 J rfl (λ_ h=>fI h X (qz+1) f) (λc w X G=>?_) λc v U w b J G=>?_
   ·replace X:=X.drop 1;cases G;have ht:=f1 _ rfl;subst ht;replace G:=g6;replace G:some (.inr c)=some y:=G;cases G;exact g _ rfl _ _ J.defers X
   obtain⟨rfl,X⟩:=b;obtain⟨r7,r8,r9,X⟩:=aB X;obtain⟨m8,X⟩:=(X.pk 1).unpure;refine x_m J rfl λU J=>wn (m7 _ _ ?_);refine ws λs0 m9=>xk 3 J rfl λU J=>aX bU (X.rd 1 rfl).2.1 J rfl λU J=>x_l G J rfl λs2 _ U J G=>x_l G J rfl λs3 _ U J G=>eT G J (aR uu3 bZ rfl (J.ev rfl)) rfl λs4 _ U J G=>?_;replace X:=aG (x:=c.2) ((SH.pure_ m8 X).pk 1);refine kA G xK J rfl (λ_ h=>aT h X (qz+1) f) (λc9 w X G=>?_) λc9 v U w b J G=>?_
   ·replace X:=X.drop 1;cases G;have ht:=f1 _ rfl;subst ht;replace G:=g6;replace G:some (.inr c9)=some y:=G;cases G;exact g _ rfl _ _ J.defers X
   obtain⟨rfl,X⟩:=b;obtain⟨d1,d2,d3,X⟩:=aB X;obtain⟨n0,X⟩:=(X.pk 1).unpure;refine x_l G J rfl λh0 _ U J G=>x_m J rfl λU J=>wn (m9 _ _ ?_);refine aA λh1 n1=>?_;have q0:∀f3,xX c9 f3=some e9->∀d4 d5 d6 U w,FR 70 [] U [(0,(pP a)),(4,.int .i64 j),(5,.slice d4 d5 d6)]->SH r (blk a 140 [.slice d1 d2 d3]::own (kI .i64) 2 d4 d5 d6 f3::L) w->h1 U w:=by intro f3 G d4 d5 d6 U w J X;unfold xX at G;cases G;refine n1 _ _ (m6 _ _ ?_);exact⟨_,m2 _ rfl,d1,d2,d3,d4,d5,d6,n0,J.sub _ rfl,X⟩
   obtain⟨n2,n3,G⟩:=bnd G;have n4:∀A,(A)=n2->∀d7 d8 d9 U w,FR 70 [] U [(0,(pP a)),(4,.int .i64 j),(5,.slice d7 d8 d9)]->SH r (blk a 140 [.slice d1 d2 d3]::own (kI .i64) 2 d7 d8 d9 A::L) w->h1 U w:=by intro A ht d7 d8 d9 U w J X;subst ht;replace G:vJ c9 A=some e9:=G;unfold vJ at G;exact q0 A G d7 d8 d9 U w (J.sub _ rfl) X
   refine aV n3 (λs U w=>∃e0 e1 e2,FR 70 [] U [(0,(pP a)),(4,.int .i64 j),(5,.slice e0 e1 e2),(7,.int .i64 c.1),(54,.int .u64 h0),(55,.int .u64 s.2)]/\SH r (blk a 140 [.slice d1 d2 d3]::own (kI .i64) 2 e0 e1 e2 s.1::L) w) ⟨t,u,z,J.sub _ rfl,X⟩ ?_;intro s5 n5 n6 G n7 n8 U w i;obtain⟨h2,n9⟩:=n5;replace G:iN c h0 h2 n9=some n6:=G;unfold iN at G
   try dsimp only at i
   obtain⟨e0,e1,e2,J,X⟩:=i;refine nz 1 J rfl λU J=>wp_seq_k λs6 o0=>aZ J G rfl (λo1 G=>?_) λo1 G=>?_
   ·refine wp_skip (o0 _ _ ?_);refine wp_seq_k λs7 o2=>aA λs8 o3=>aF (xk 2 J rfl λU J=>?_);refine kK (d:=(kI .i64)) (e:=2) (ps:=#[(0,.int .i64 c.1)]) (cells:=[.int .i64 c.1]) (xs:=[c.1]) (λw=>by kernel_rfl) rfl ⟨[.int .i64 c.1],_,rfl,rfl,rfl⟩ J X rfl λs9 U w X J=>?_;obtain⟨o4,G⟩:=aC G;have hr:=X.rd 0 rfl;refine lB 2 mC bU J X hr.1 hr.2.1 o4 rfl rfl λo5 o6 o7 U w X J=>x_m J rfl λU J=>wpList_nil (o3 _ _ ?_);refine o2 _ _ (aF ?_);refine x_l G J rfl λt0 _ U J G=>x_m J rfl λU J=>wpList_nil ?_;replace X:=X.drop 1 |>.pk 1;cases G;exact⟨_,n7 _ rfl,o5,o6,o7,J.sub _ rfl,X⟩
   cases G;exact wp_exit (n4 h2 (n8 _ rfl) e0 e1 e2 U w (J.sub _ rfl) X)
  cases G;exact wp_exit (l9 f2 g8 (f1 _ rfl) c6 c7 c8 t u z g9 U w (J.sub _ rfl) X)
 refine nz 2 J rfl λU J=>aZ J G rfl (λo8 G=>?_) λo8 G=>?_
 ·refine nz 2 J rfl λU J=>aZ J G rfl (λo9 G=>?_) λo9 G=>?_
  ·refine aF (xk 2 J rfl λU J=>?_);replace X:=aG (x:=m.2) ((SH.pure_ k X).pk 1);refine kA G bA3 J rfl (λ_ h=>aGg h X (qz+0) f) (λf4 w X G=>?_) λf4 v U w b J G=>?_
   ·cases G;exact g _ rfl _ _ J.defers X
   obtain⟨p0,p1,p2,rfl,X⟩:=b;obtain⟨p3,p4,p5,X⟩:=aB (X.pk 1);obtain⟨p6,X⟩:=(X.pk 1).unpure;exact x_m J rfl λU J=>wpList_nil (l f4.2.f0 f4.1 G p3 p4 p5 p0 p1 p2 p6 U w (J.sub _ rfl) X)
  replace X:=(SH.nil_own (d:=(kI .i64)) (e:=2) X).pk 1;exact wp_skip (l m.2.f0 [] G B C D none 0 0 k U w (J.sub _ rfl) X)
 replace X:=(SH.nil_own (d:=(kI .i64)) (e:=2) X).pk 1;exact wp_skip (l m.2.f0 [] G B C D none 0 0 k U w (J.sub _ rfl) X)
theorem xA {a0 a1 a g1 y} (G:qM a0 a1=some y) (X:SH r (obj140 Z wz a a0::obj158 g1 a1::L) w) (qz:Nat) (e:L[qz]?=some (zone Z wz)) :
  RetS Tryz.prog 110 #[.pointer (some ⟨a,0,none⟩),(pP g1)] w aDg y (λy v w'=>v=.tuple #[]/\SH r (obj140 Z wz a y.1::obj158 g1 y.2::L) w') (λy w'=>SH r (obj140 Z wz a y.1::obj158 g1 y.2::L) w'):=by
 refine vS Tryz.func110 rfl Tryz.ntmps110 [(0,_),(1,_)] rfl (by simp) ?_;intro U J Qf A f g;unfold qM at G;obtain⟨j,k,l,X⟩:=aB X;obtain⟨c,X⟩:=(X.pk 1).unpure;obtain⟨m,n,o,X⟩:=aF7 (X.pk 1);refine aF (x_m J rfl λU J=>?_);replace X:=aG (x:=a0) ((SH.pure_ c X).pk 3);refine kA G aW3 J rfl (λ_ h=>aDj h X (qz+2) e) (λb w X G=>?_) λb v U w i J G=>?_
 ·replace X:=(aFc (x:=a1) (X.pk 2 |>.pk 2)).pk 1;cases G;exact g _ rfl _ _ J.defers X
 obtain⟨p,q,s,rfl,X⟩:=i;obtain⟨t,u,z,X⟩:=aB (X.pk 1);obtain⟨d,X⟩:=(X.pk 1).unpure;refine eL 2 bCz J X rfl rfl λU w X J=>wpList_nil ?_;replace X:=(aFc (x:=b.1) ((aG (x:=b.2) ((SH.pure_ d X).pk 2)).pk 2 |>.pk 2)).drop 2 |>.pk 1;cases G;refine f _ rfl _ _ (aHj Tryz.results110 J ?_);exact⟨rfl,X⟩
theorem aAj {a0 f A0 n0 c0 b y} (G:qB a0 f=some y) (X:SH r (obj158 b f::L) w) (qz:Nat) (i:L[qz]?=some (zone Z wz)) (k:Imm Z wz (kI .u8) A0 n0 c0 a0) :
  Ret Tryz.prog 47 #[.slice A0 n0 c0,.func (.func 110) #[] #[.pointer (some ⟨b,0,none⟩)]] w λv w'=>v=.bool y.1/\SH r (obj158 b y.2::L) w':=by
 obtain⟨c,j,G⟩:=bnd G;refine Ret.mono_ (aCb (R:=λv w'=>v=.bool y.1/\SH r (obj158 b y.2::L) w') bBs X (λg s t a=>?_)) (λv w' h=>h);replace a:=aG (x:=⟨a0⟩) (a.pk 1 |> λh=>(SH.pure_ k (h.pk 1)).pk 1);replace a:=a.pk 1;replace a:=a.pk 2;replace a:=a.pk 2;rcases c with c | c
 ·replace G:=wO G;cases G;left;refine Ret.mono_ (RetS.lf (xA j a (qz+1) i :)) ?_;rintro v l ⟨rfl,X⟩;replace X:=X.pk 2 |>.pk 1;obtain⟨m,n,o,X⟩:=aB X;have p:=SH.unpure (X.pk 1);clear X;obtain⟨hi,X⟩:=p;refine⟨_,m,n,o,X,λq d=>⟨?_,d⟩⟩;rw [← hi.ln]
 ·replace G:=wL G;cases G;right;refine Calls.mono (RetS.rf (xA j a (qz+1) i :)) ?_;rintro e l ⟨rfl,X⟩;replace X:=X.pk 2 |>.drop 1;exact⟨rfl,_,X,λq d=>⟨rfl,d⟩⟩
theorem qH {a0 A0 n0 c0 y} (G:jH a0=some y) (X:SH r (L) w) (qz:Nat) (q:L[qz]?=some (zone Z wz)) (s:Imm Z wz (kI .u8) A0 n0 c0 a0) :
  Ret Tryz.prog 95 #[.slice A0 n0 c0] w λv w'=>∃ (a:Option Addr) (b:Nat) (c:Nat),v=.tuple #[(.slice a b c),(.int .i64 y.2)]/\SH r (own (kI .i64) 2 a b c y.1::L) w':=by
 refine enter Tryz.func95 rfl Tryz.ntmps95 [(0,_)] rfl (by simp) ?_;intro U J Qf f D;unfold jH at G;refine nz 2 J rfl λU J=>ws λu g=>fC (cs:=[.slice none 0 0]) bB1 J X rfl λh U w X J=>wn (g _ _ ?_);refine wp_seq_k λz i=>ws λA j=>xk 1 J rfl λU J=>x_v J (gW rfl (lU (vals:=#[]) J rfl) (lU (vals:=#[.pointer (some ⟨h,0,none⟩)]) J rfl)) rfl λU J=>?_;replace X:=aFc (x:=[]) ((SH.nil_own (d:=(kI .i64)) (e:=2) X).pk 1);obtain⟨B,k,G⟩:=bnd G;refine x_c aT0 J rfl (aAj k X (qz+0) q s :) λv U w t J=>?_;obtain⟨rfl,X⟩:=t;obtain⟨l,m,n,X⟩:=aF7 X;refine nk 1 J rfl λU J=>j _ _ (aZ J G rfl (λo G=>?_) λo G=>?_)
 ·refine nz 2 J rfl λU J=>?_;replace X:=(SH.nil_own (d:=(kI .i64)) (e:=2) X).drop 1 |>.drop 1;cases G;refine wp_ret (f _ _ ?_);exact lv2 Tryz.results95 J rfl rfl ⟨none,0,0,rfl,X⟩
 refine wp_skip (i _ _ ?_);refine ws λC p=>aN bU (X.cell 0 rfl 0 _ rfl) J rfl λU J=>nk 2 J rfl λU J=>?_;replace X:=X.drop 0;cases G;refine p _ _ (wp_ret ?_);refine f _ _ (lv2 Tryz.results95 J rfl rfl ?_);exact⟨l,m,n,rfl,X⟩
end
noncomputable section
set_option linter.unusedSimpArgs false
def aA8 (a0:Nat):Option (Bool) :=
  some (!feq a0 a0)
def vT (a0:Nat):Option (Nat) :=
  (aA8 a0).bind λa=>(if a=true then (some ((9221120237041090560:Int).toNat)) else (some a0))
def xS (a0:Nat):Option (Int) :=
  (vT a0).bind λa=>(some (a:Int))
def aEg (a0:Int):Option (Nat) :=
  (vT a0.toNat).bind λa=>(some a)
def sG (a:(List Nat)):Option ((List Nat)×Int) :=
  some (a,0)
def qD (a:(List Nat)):Option ((List Nat)×Int) :=
  sG a
def dO (d:((List Int)×Int)) (a:(List Nat)) (b:Int):Option (((List Nat)×Int)⊕(((List Nat))⊕((List Nat)×Int))) :=
  if (decide (b<(d.1.length:Int)))=true then ((at_ d.1 b).bind λf=>(ltt (IntKind.u64.wrap f) λe=>((aEg e).bind λc=>((xS c).bind λg=>(if (g != e)=true then (some (.inr (.inr ([],3)))) else (chk (a.length+[c].length<=140737488355328 / 8) (ltt (IntKind.i64.wrap (b+1)) λh=>(some (.inl (a++[c],h)))))))))) else (some (.inr (.inl (a))))
def oH (a0:(List Int)):Option ((List Nat)×Int) :=
  (jH a0).bind λa=>(if (a.2 != 0)=true then (some ([],a.2)) else ((loop (λs=>dO a s.1 s.2) ([],0)).bind λt=>match t with | (.inl t)=>qD t | (.inr t)=>some t))
end
section
variable {r:World} {L:List HP} {w:World} {Z:Nat->Prop} {wz:World}
theorem aKm {a0 y} (G:aA8 a0=some y) (X:SH r (L) w) :
  Ret Tryz.prog 145 #[.float .f64 a0] w λv w'=>v=.bool y/\SH r (L) w':=by
 refine enter Tryz.func145 rfl Tryz.ntmps145 [(0,_)] rfl (by simp) ?_;intro U J Qf b d;unfold aA8 at G;refine nz 1 J rfl λU J=>ws λc a=>xk 2 J rfl λU J=>x_v J (bBu rfl (J.ev rfl) (J.ev rfl)) rfl λU J=>x_m J rfl λU J=>wn (a _ _ ?_);cases G;refine wp_ret (b _ _ ?_);exact lv Tryz.results145 J rfl ⟨rfl,X⟩
theorem aD3 {a0 y} (G:vT a0=some y) (X:SH r (L) w) :
  Ret Tryz.prog 131 #[.float .f64 a0] w λv w'=>v=.float .f64 y/\SH r (L) w':=by
 refine enter Tryz.func131 rfl Tryz.ntmps131 [(0,_)] rfl (by simp) ?_;intro U J Qf a l;unfold vT at G;refine nz 1 J rfl λU J=>wp_seq_k λh b=>ws λi c=>xk 1 J rfl λU J=>?_;obtain⟨j,d,G⟩:=bnd G;refine x_c bCs J rfl (aKm d X :) λv U w g J=>?_;obtain⟨rfl,X⟩:=g;refine wn (c _ _ ?_);refine aZ J G rfl (λe G=>?_) λe G=>?_
 ·refine ws λk f=>x_v J (aRw (aXd _) rfl (evs J rfl)) rfl λU J=>x_m J rfl λU J=>wn (f _ _ ?_);cases G;refine wp_ret (a _ _ ?_);exact lv Tryz.results131 J rfl ⟨rfl,X⟩
 refine wp_skip (b _ _ ?_);refine nz 2 J rfl λU J=>?_;cases G;refine wp_ret (a _ _ ?_);exact lv Tryz.results131 J rfl ⟨rfl,X⟩
theorem aFw {a0 y} (G:xS a0=some y) (X:SH r (L) w) :
  Ret Tryz.prog 115 #[.float .f64 a0] w λv w'=>v=.int .u64 y/\SH r (L) w':=by
 refine enter Tryz.func115 rfl Tryz.ntmps115 [(0,_)] rfl (by simp) ?_;intro U J Qf c g;unfold xS at G;refine nz 1 J rfl λU J=>ws λe a=>xk 1 J rfl λU J=>?_;obtain⟨f,b,G⟩:=bnd G;refine x_c aW9 J rfl (aD3 b X :) λv U w d J=>?_;obtain⟨rfl,X⟩:=d;refine x_v J (aRw (aZ9 _) rfl (evs J rfl)) rfl λU J=>x_m J rfl λU J=>wn (a _ _ ?_);cases G;refine wp_ret (c _ _ ?_);exact lv Tryz.results115 J rfl ⟨rfl,X⟩
theorem aQx {a0 y} (G:aEg a0=some y) (X:SH r (L) w) :
  Ret Tryz.prog 114 #[.int .u64 a0] w λv w'=>v=.float .f64 y/\SH r (L) w':=by
 refine enter Tryz.func114 rfl Tryz.ntmps114 [(0,_)] rfl (by simp) ?_;intro U J Qf c g;unfold aEg at G;refine nz 1 J rfl λU J=>ws λe a=>xk 1 J rfl λU J=>x_v J (aRw (aXd _) rfl (evs J rfl)) rfl λU J=>?_;obtain⟨f,b,G⟩:=bnd G;refine x_c aW9 J rfl (aD3 b X :) λv U w d J=>?_;obtain⟨rfl,X⟩:=d;refine x_m J rfl λU J=>wn (a _ _ ?_);cases G;refine wp_ret (c _ _ ?_);exact lv Tryz.results114 J rfl ⟨rfl,X⟩
theorem aDu {a0 A0 n0 c0 y} (G:oH a0=some y) (X:SH r (L) w) (qz:Nat) (hZ:L[qz]?=some (zone Z wz)) (c5:Imm Z wz (kI .u8) A0 n0 c0 a0) :
  Ret Tryz.prog 97 #[.slice A0 n0 c0] w λv w'=>∃ (D:Option Addr) (E:Nat) (F:Nat),v=.tuple #[(.slice D E F),(.int .i64 y.2)]/\SH r (own kF 59 D E F y.1::L) w':=by
 refine enter Tryz.func97 rfl Tryz.ntmps97 [(0,_)] rfl (by simp) ?_;intro U J Qf q e5;unfold oH at G;refine nz 2 J rfl λU J=>ws λc8 I=>xk 1 J rfl λU J=>?_;obtain⟨o,K,G⟩:=bnd G;refine x_c aWg J rfl (qH K X (qz+0) hZ c5 :) λv U w b J=>?_;obtain⟨t,u,x,rfl,X⟩:=b;refine nk 5 J rfl λU J=>I _ _ (wp_seq_k λc9 M=>?_);refine nz 2 J rfl λU J=>aZ J G rfl (λN G=>?_) λN G=>?_
 ·refine nz 3 J rfl λU J=>?_;replace X:=(SH.nil_own (d:=kF) (e:=59) X).drop 1;cases G;refine wp_ret (q _ _ ?_);exact lv2 Tryz.results97 J rfl rfl ⟨none,0,0,rfl,X⟩
 refine wp_skip (M _ _ ?_);refine nz 1 J rfl λU J=>wp_seq_k λd1 O=>ws λd2 P=>xk 1 J rfl λU J=>aX bU (X.rd 0 rfl).2.1 J rfl λU J=>x_m J rfl λU J=>wn (P _ _ ?_);refine aA λz Q=>?_;have c6:∀p,sG p=some y->∀c f g U w,FR 38 [] U [(6,.slice c f g)]->SH r (own kF 59 c f g p::L) w->z U w:=by intro p G c f g U w J X;unfold sG at G;refine Q _ _ (O _ _ ?_);refine nz 3 J rfl λU J=>?_;cases G;refine wp_ret (q _ _ ?_);exact lv2 Tryz.results97 J rfl rfl ⟨c,f,g,rfl,X⟩
 obtain⟨R,S,G⟩:=bnd G;have T:=G;have W:∀a,(.inl (a))=R->∀h i j U w,FR 38 [] U [(6,.slice h i j)]->SH r (own kF 59 h i j a::L) w->z U w:=by intro a ht h i j U w J X;subst ht;replace G:qD a=some y:=G;unfold qD at G;exact c6 a G h i j U w (J.sub _ rfl) X
 replace X:=SH.nil_own (d:=kF) (e:=59) X;refine aV S (λs U w=>∃k l m,FR 38 [] U [(6,.slice k l m),(18,.slice t u x),(19,.int .i64 (o.1.length:Int)),(20,.int .i64 s.2)]/\SH r (own kF 59 k l m s.1::own (kI .i64) 2 t u x o.1::L) w) ⟨none,0,0,J.sub _ rfl,X⟩ ?_;intro d3 Y a1 G a2 A U w H;obtain⟨B,a3⟩:=Y;replace G:dO o B a3=some a1:=G;unfold dO at G
 try dsimp only at H
 obtain⟨k,l,m,J,X⟩:=H;refine nz 1 J rfl λU J=>wp_seq_k λd4 a4=>aZ J G rfl (λa5 G=>?_) λa5 G=>?_
 ·refine wp_skip (a4 _ _ ?_);refine wp_seq_k λd5 a6=>aA λd6 a7=>ws λd7 a8=>?_;obtain⟨d8,C,G⟩:=bnd G;refine fL bU sz2 (X.rd 1 rfl) C J rfl λU J=>?_;obtain⟨cs,hV,a9⟩:=el (X.rd 1 rfl) C;obtain rfl:=hV;refine aN uu2 (a9 0 _ rfl) J rfl λU J=>x_m J rfl λU J=>wn (a8 _ _ ?_);refine ws λd9 b1=>xk 1 J rfl λU J=>eT G J (aR uu2 bZ rfl (J.ev rfl)) rfl λb2 b3 U J G=>?_;obtain⟨n,b4,G⟩:=bnd G;refine x_c bA6 J rfl (aQx b4 X :) λv U w b J=>?_;obtain⟨rfl,X⟩:=b;refine x_m J rfl λU J=>wn (b1 _ _ ?_);refine wp_seq_k λe0 b5=>ws λe1 b6=>xk 1 J rfl λU J=>?_;obtain⟨e2,b7,G⟩:=bnd G;refine x_c aXy J rfl (aFw b7 X :) λv U w b J=>?_;obtain⟨rfl,X⟩:=b;refine x_m J rfl λU J=>x_v (v:=.int .u64 b2) J (cU b3 (aR uu2 bZ rfl (J.ev rfl))) rfl λU J=>nk 1 J rfl λU J=>b6 _ _ (aZ J G rfl (λb8 G=>?_) λb8 G=>?_)
  ·refine nz 2 J rfl λU J=>?_;replace X:=(SH.nil_own (d:=kF) (e:=59) X).drop 1 |>.drop 1;cases G;refine wp_ret ?_;have ht:=A _ rfl;subst ht;replace G:=T;replace G:some ([],3)=some y:=G;cases G;refine q _ _ (lv2 Tryz.results97 J rfl rfl ?_);exact⟨none,0,0,rfl,X⟩
  refine wp_skip (b5 _ _ ?_);refine aF (xk 2 J rfl λU J=>?_);refine kK (d:=kF) (e:=59) (ps:=#[(0,.float .f64 n)]) (cells:=[.float .f64 n]) (xs:=[n]) (λw=>by kernel_rfl) rfl ⟨[.float .f64 n],_,rfl,rfl,rfl⟩ J X rfl λe3 U w X J=>?_;obtain⟨b9,G⟩:=aC G;have hr:=X.rd 0 rfl;refine lB 1 aQh aEc J X hr.1 hr.2.1 b9 rfl rfl λc1 c2 c3 U w X J=>x_m J rfl λU J=>wpList_nil (a7 _ _ ?_);refine a6 _ _ (aF ?_);refine x_l G J rfl λe4 _ U J G=>x_m J rfl λU J=>wpList_nil ?_;replace X:=X.drop 1;cases G;exact⟨_,a2 _ rfl,c1,c2,c3,J.sub _ rfl,X⟩
 replace X:=X.drop 1;cases G;exact wp_exit (W B (A _ rfl) k l m U w (J.sub _ rfl) X)
end
noncomputable section
set_option linter.unusedSimpArgs false
def sW (a:(List Int)):Option ((List Int)) :=
  (nN a).bind λb=>(some b)
def qP (a:(List Int)):Option ((List Int)) :=
  sW a
def jI (a0:(List Nat)) (a:(List Int)) (b:Int):Option (((List Int)×Int)⊕(((List Int)))) :=
  if (decide (b<(a0.length:Int)))=true then ((at_ a0 b).bind λd=>((xS d).bind λe=>(ltt (IntKind.i64.wrap e) λc=>(chk (a.length+[c].length<=140737488355328 / 8) (ltt (IntKind.i64.wrap (b+1)) λf=>(some (.inl (a++[c],f)))))))) else (some (.inr (a)))
def uQ (a0:(List Nat)):Option ((List Int)) :=
  (loop (λs=>jI a0 s.1 s.2) ([],0)).bind λt=>qP t
end
section
variable {r:World} {L:List HP} {w:World} {Z:Nat->Prop} {wz:World}
theorem aH1 {a0 A0 n0 c0 y} (G:uQ a0=some y) (X:SH r (L) w) (o:RdL L kF A0 n0 c0 a0) :
  Ret Tryz.prog 105 #[.slice A0 n0 c0] w λv w'=>∃ (x:Option Addr) (z:Nat) (A:Nat),v=.slice x z A/\SH r (own (kI .u8) 5 x z A y::L) w':=by
 refine enter Tryz.func105 rfl Tryz.ntmps105 [(0,_)] rfl (by simp) ?_;intro U J Qf hQ c8;unfold uQ at G;refine nz 1 J rfl λU J=>nz 1 J rfl λU J=>wp_seq_k λb4 C=>ws λb5 D=>xk 1 J rfl λU J=>aX aEc (X.rdl 0 o rfl).2.1 J rfl λU J=>x_m J rfl λU J=>wn (D _ _ ?_);refine aA λq E=>?_;have b2:∀k,sW k=some y->∀l m n U w,FR 21 [] U [(3,.slice l m n)]->SH r (own (kI .i64) 2 l m n k::L) w->q U w:=by intro k G l m n U w J X;unfold sW at G;refine E _ _ (C _ _ ?_);refine ws λb6 F=>xk 1 J rfl λU J=>?_;obtain⟨b7,H,G⟩:=bnd G;refine x_c aL3 J rfl (sM H X (RdL.own 0 rfl (X.dropN 0)) :) λv U w p J=>?_;obtain⟨I,K,M,rfl,X⟩:=p;refine x_m J rfl λU J=>wn (F _ _ ?_);replace X:=X.drop 1;cases G;refine wp_ret (hQ _ _ ?_);exact lv Tryz.results105 J rfl ⟨I,K,M,rfl,X⟩
 obtain⟨N,O,G⟩:=bnd G;have P:∀a,(a)=N->∀b c f U w,FR 21 [] U [(3,.slice b c f)]->SH r (own (kI .i64) 2 b c f a::L) w->q U w:=by intro a ht b c f U w J X;subst ht;replace G:qP a=some y:=G;unfold qP at G;exact b2 a G b c f U w (J.sub _ rfl) X
 replace X:=SH.nil_own (d:=(kI .i64)) (e:=2) X;refine aV O (λs U w=>∃g h i,FR 21 [] U [(3,.slice g h i),(6,.slice A0 n0 c0),(7,.int .i64 (a0.length:Int)),(8,.int .i64 s.2)]/\SH r (own (kI .i64) 2 g h i s.1::L) w) ⟨none,0,0,J.sub _ rfl,X⟩ ?_;intro b8 Q R G S T U w B;obtain⟨t,W⟩:=Q;replace G:jI a0 t W=some R:=G;unfold jI at G
 try dsimp only at B
 obtain⟨g,h,i,J,X⟩:=B;refine nz 1 J rfl λU J=>wp_seq_k λb9 Y=>aZ J G rfl (λZ G=>?_) λZ G=>?_
 ·refine wp_skip (Y _ _ ?_);refine wp_seq_k λc1 a1=>aA λc2 a2=>ws λc3 a3=>?_;obtain⟨c4,u,G⟩:=bnd G;refine fL aEc aZw (X.rdl 1 o rfl) u J rfl λU J=>?_;obtain⟨cs,hV,a4⟩:=el (X.rdl 1 o rfl) u;obtain rfl:=hV;refine aN aRb (a4 0 _ rfl) J rfl λU J=>x_m J rfl λU J=>wn (a3 _ _ ?_);refine aF (xk 2 J rfl λU J=>?_);obtain⟨c5,a5,G⟩:=bnd G;refine x_c aXy J rfl (aFw a5 X :) λv U w p J=>?_;obtain⟨rfl,X⟩:=p;refine eT G J (aR bZ uu2 rfl (J.ev rfl)) rfl λj _ U J G=>kK (d:=(kI .i64)) (e:=2) (ps:=#[(0,.int .i64 j)]) (cells:=[.int .i64 j]) (xs:=[j]) (λw=>by kernel_rfl) rfl ⟨[.int .i64 j],_,rfl,rfl,rfl⟩ J X rfl λc6 U w X J=>?_;obtain⟨a6,G⟩:=aC G;have hr:=X.rd 0 rfl;refine lB 1 mC bU J X hr.1 hr.2.1 a6 rfl rfl λa7 a8 a9 U w X J=>x_m J rfl λU J=>wpList_nil (a2 _ _ ?_);refine a1 _ _ (aF ?_);refine x_l G J rfl λc7 _ U J G=>x_m J rfl λU J=>wpList_nil ?_;replace X:=X.drop 1;cases G;exact⟨_,S _ rfl,a7,a8,a9,J.sub _ rfl,X⟩
 cases G;exact wp_exit (P t (T _ rfl) g h i U w (J.sub _ rfl) X)
end
noncomputable section
set_option linter.unusedSimpArgs false
def mQ:Option (Int) :=
  some (-1)
def lK:Option (Int) :=
  mQ
def dT (a0:(List Bool)) (d:Bool) (a:Int):Option ((Int)⊕((Unit)⊕(Int))) :=
  if (decide (a<(a0.length:Int)))=true then ((at_ a0 a).bind λb=>(if (d==b)=true then (some (.inr (.inr a))) else (ltt (IntKind.i64.wrap (a+1)) λc=>(some (.inl (c)))))) else (some (.inr (.inl ())))
def lP (a0:(List Bool)) (a:Bool):Option (Int) :=
  (loop (λs=>dT a0 a s) (0)).bind λt=>match t with | (.inl t)=>lK | (.inr t)=>some t
def gV (a0:(List Bool)) (b:Bool):Option (Bool) :=
  (lP a0 b).bind λa=>(some (decide (0<=a)))
def mJ (c:(List Int)) (b:(List (List UInt8))) (d:(List Bool)):Option ((S140×(List (List UInt8)))⊕(S140×(List (List UInt8)))) :=
  (gV d false).bind λe=>((aI (⟨c⟩:S140) (!e)).bind λa=>(fJ a (λa=>(some (.inl (a,b)))) (λa=>(some (.inr (a,b))))))
def kZ (a:(List Int)) (b:(List (List UInt8))) (c:(List Bool)):Option ((S140×(List (List UInt8)))⊕(S140×(List (List UInt8)))) :=
  mJ a b c
def jQ (e:(List (List UInt8))) (b:(List (List UInt8))) (c:(List Bool)) (f:Int) (a:Int) (g:(List Int)):Option (((List Int)×(List (List UInt8))×(List Bool)×Int)⊕(((List Int)×(List (List UInt8))×(List Bool))⊕((S140×(List (List UInt8)))⊕(S140×(List (List UInt8)))))) :=
  (at_ c a).bind λi=>((at_ e a).bind λd=>(chk (b.length+[d].length<=140737488355328 / 16) (ltt (IntKind.i64.wrap (f+1)) λh=>(some (.inl (g,b++[d],c.set a.toNat true,h))))))
def cE (f:(List (List UInt8))) (i:((List Int)×S140)) (g:(List Int)) (a:(List (List UInt8))) (h:(List Bool)) (d:Int):Option (((List Int)×(List (List UInt8))×(List Bool)×Int)⊕(((List Int)×(List (List UInt8))×(List Bool))⊕((S140×(List (List UInt8)))⊕(S140×(List (List UInt8)))))) :=
  if (decide (d<(i.1.length:Int)))=true then ((at_ i.1 d).bind λe=>(if (decide (0<=e))=true then ((aI (⟨g⟩:S140) (decide (e<(f.length:Int)))).bind λb=>(fJ b (λb=>(jQ f a h d e b.f0)) (λb=>(some (.inr (.inr (.inr (b,a)))))))) else ((aI (⟨g⟩:S140) false).bind λc=>(fJ c (λc=>(jQ f a h d e c.f0)) (λc=>(some (.inr (.inr (.inr (c,a)))))))))) else (some (.inr (.inl (g,a,h))))
def mK (c:(List (List UInt8))) (d:(List Int)) (b:(List (List UInt8))):Option ((S140×(List (List UInt8)))⊕(S140×(List (List UInt8)))) :=
  chk (0<=(b.length:Int)/\(1:Int) * (b.length:Int)<=140737488355328) ((tN (⟨d⟩:S140)).bind λa=>(fJ a (λa=>((loop (λs=>cE b a s.1 s.2.1 s.2.2.1 s.2.2.2) (a.2.f0,c,List.replicate (b.length:Int).toNat (false:Bool),0)).bind λt=>match t with | (.inl t)=>kZ t.1 t.2.1 t.2.2 | (.inr t)=>some t)) (λa=>(some (.inr (a,c))))))
def kU (c:(List (List UInt8))) (a:(List Int)) (b:(List (List UInt8))):Option ((S140×(List (List UInt8)))⊕(S140×(List (List UInt8)))) :=
  mK c a b
def hD (a:(List (List UInt8))) (c:Int) (b:((List UInt8)×S140)) (d:(List Int)):Option (((List Int)×(List (List UInt8))×Int)⊕(((List Int)×(List (List UInt8)))⊕((S140×(List (List UInt8)))⊕(S140×(List (List UInt8)))))) :=
  chk (a.length+[b.1].length<=140737488355328 / 16) (ltt (IntKind.u64.wrap (c+1)) λe=>(some (.inl (d,a++[b.1],e))))
def dC (f:(List (List UInt8))) (h:(Int×S140)) (g:(List Int)) (b:(List (List UInt8))) (e:Int):Option (((List Int)×(List (List UInt8))×Int)⊕(((List Int)×(List (List UInt8)))⊕((S140×(List (List UInt8)))⊕(S140×(List (List UInt8)))))) :=
  if (decide (e<h.1))=true then ((eZ (⟨g⟩:S140) 32).bind λa=>(fJ a (λa=>(if ((b.length:Int)==0)=true then ((aI a.2 true).bind λc=>(fJ c (λc=>(hD b e a c.f0)) (λc=>(some (.inr (.inr (.inr (c,f)))))))) else (ltt (IntKind.i64.wrap ((b.length:Int) - 1)) λi=>((at_ b i).bind λj=>((aI a.2 (Op.bytesLess j a.1)).bind λd=>(fJ d (λd=>(hD b e a d.f0)) (λd=>(some (.inr (.inr (.inr (d,f)))))))))))) (λa=>(some (.inr (.inr (.inr (a,f)))))))) else (some (.inr (.inl (g,b))))
def jU (a0:S140) (b:(List (List UInt8))):Option ((S140×(List (List UInt8)))⊕(S140×(List (List UInt8)))) :=
  (bC a0 4096).bind λa=>(fJ a (λa=>((loop (λs=>dC b a s.1 s.2.1 s.2.2) (a.2.f0,[],0)).bind λt=>match t with | (.inl t)=>kU b t.1 t.2 | (.inr t)=>some t)) (λa=>(some (.inr (a,b)))))
def pF (a0:(List Int)) (a:(List (List UInt8))):Option (Bool×(List (List UInt8))) :=
  (jU (⟨a0⟩:S140) a).bind λy=>(fJ y (λy=>some ((((y.1.f0.length:Int)==0),y.2))) (λy=>some ((false,y.2))))
def oK (a0:(List Int)):Option ((List (List UInt8))×Int) :=
  (pF a0 []).bind λa=>(if (!a.1)=true then (some ([],3)) else (some (a.2,0)))
end
section
variable {r:World} {L:List HP} {w:World} {Z:Nat->Prop} {wz:World}
theorem zS {a0 a1 A0 n0 c0 y} (G:lP a0 a1=some y) (X:SH r (L) w) (a:RdL L kB A0 n0 c0 a0) :
  Ret Tryz.prog 130 #[.slice A0 n0 c0,.bool a1] w λv w'=>v=.int .i64 y/\SH r (L) w':=by
 refine enter Tryz.func130 rfl Tryz.ntmps130 [(0,_),(1,_)] rfl (by simp) ?_;intro U J Qf f S;unfold lP at G;refine nz 1 J rfl λU J=>wp_seq_k λH h=>ws λI i=>xk 1 J rfl λU J=>aX aPd (X.rdl 0 a rfl).2.1 J rfl λU J=>x_m J rfl λU J=>wn (i _ _ ?_);refine aA λb j=>?_;have E:mQ=some y->∀U w,FR 19 [] U []->SH r (L) w->b U w:=by intro G U w J X;unfold mQ at G;refine j _ _ (h _ _ ?_);refine nz 1 J rfl λU J=>?_;cases G;refine wp_ret (f _ _ ?_);exact lv Tryz.results130 J rfl ⟨rfl,X⟩
 obtain⟨k,l,G⟩:=bnd G;have m:=G;have n:(.inl ())=k->∀U w,FR 19 [] U []->SH r (L) w->b U w:=by intro ht U w J X;subst ht;replace G:lK=some y:=G;unfold lK at G;exact E G U w (J.sub _ rfl) X
 refine aV l (λs U w=>FR 19 [] U [(0,.slice A0 n0 c0),(1,.bool a1),(7,.int .i64 (a0.length:Int)),(8,.int .i64 s)]/\SH r (L) w) ⟨J.sub _ rfl,X⟩ ?_;intro K o p G t c U w g;obtain⟨d,rfl⟩:∃ q,q=o:=⟨_,rfl⟩;replace G:dT a0 a1 d=some p:=G;unfold dT at G
 try dsimp only at g
 obtain⟨J,X⟩:=g;refine nz 1 J rfl λU J=>wp_seq_k λM u=>aZ J G rfl (λx G=>?_) λx G=>?_
 ·refine wp_skip (u _ _ ?_);refine wp_seq_k λN z=>aA λO A=>nz 2 J rfl λU J=>ws λP B=>xk 3 J rfl λU J=>?_;obtain⟨Q,e,G⟩:=bnd G;refine fL aPd sz4 (X.rdl 0 a rfl) e J rfl λU J=>?_;obtain⟨cs,F,C⟩:=el (X.rdl 0 a rfl) e;obtain rfl:=F;refine aN uu4 (C 0 _ rfl) J rfl λU J=>x_v J (bC5 uu4 rfl (J.ev rfl) (J.ev rfl)) rfl λU J=>wn (B _ _ ?_);refine aZ J G rfl (λD G=>?_) λD G=>?_
  ·refine nz 2 J rfl λU J=>?_;cases G;refine wp_ret ?_;have ht:=c _ rfl;subst ht;replace G:=m;replace G:some d=some y:=G;cases G;refine f _ _ (lv Tryz.results130 J rfl ?_);exact⟨rfl,X⟩
  refine wp_skip (A _ _ ?_);refine z _ _ (aF ?_);refine x_l G J rfl λR _ U J G=>x_m J rfl λU J=>wpList_nil ?_;cases G;exact⟨_,t _ rfl,J.sub _ rfl,X⟩
 cases G;exact wp_exit (n (c _ rfl) U w (J.sub _ rfl) X)
theorem xM {a0 a1 A0 n0 c0 y} (G:gV a0 a1=some y) (X:SH r (L) w) (c:RdL L kB A0 n0 c0 a0) :
  Ret Tryz.prog 113 #[.slice A0 n0 c0,.bool a1] w λv w'=>v=.bool y/\SH r (L) w':=by
 refine enter Tryz.func113 rfl Tryz.ntmps113 [(0,_),(1,_)] rfl (by simp) ?_;intro U J Qf d h;unfold gV at G;refine nz 1 J rfl λU J=>ws λf a=>xk 2 J rfl λU J=>?_;obtain⟨g,b,G⟩:=bnd G;refine x_c bAi J rfl (zS b X (RdL.sfx 0 rfl c) :) λv U w e J=>?_;obtain⟨rfl,X⟩:=e;refine nk 2 J rfl λU J=>?_;cases G;refine a _ _ (wp_ret ?_);refine d _ _ (lv Tryz.results113 J rfl ?_);exact⟨rfl,X⟩
theorem wI {a0 a1 b g1 y} (G:jU a0 a1=some y) (X:SH r (obj140 Z wz b a0::obj53 g1 a1::L) w) (qz:Nat) (t:L[qz]?=some (zone Z wz)) :
  RetS Tryz.prog 112 #[.pointer (some ⟨b,0,none⟩),(pP g1)] w aDg y (λy v w'=>v=.tuple #[]/\SH r (obj140 Z wz b y.1::obj53 g1 y.2::L) w') (λy w'=>SH r (obj140 Z wz b y.1::obj53 g1 y.2::L) w'):=by
 refine vS Tryz.func112 rfl Tryz.ntmps112 [(0,_),(1,_)] rfl (by simp) ?_;intro U J Qf hQ p1 u;unfold jU at G;obtain⟨p4,p5,p6,X⟩:=aB X;obtain⟨i0,X⟩:=(X.pk 1).unpure;obtain⟨j,k,l,X⟩:=aIy (X.pk 1);refine nz 1 J rfl λU J=>wp_seq_k λp7 i1=>ws λp8 i2=>xk 1 J rfl λU J=>?_;replace X:=aG (x:=a0) ((SH.pure_ i0 X).pk 3);refine kA G xK J rfl (λ_ h=>aT h X (qz+2) t) (λW w X G=>?_) λW v U w f J G=>?_
 ·replace X:=(sT (x:=a1) (X.pk 2 |>.pk 2)).pk 1;cases G;exact u _ rfl _ _ J.defers X
 obtain⟨rfl,X⟩:=f;obtain⟨i3,i4,i5,X⟩:=aB X;obtain⟨i6,X⟩:=(X.pk 1).unpure;refine x_m J rfl λU J=>wn (i2 _ _ ?_);refine aA λf9 i7=>?_;have p2:∀Y a,mK a1 Y a=some y->∀d6 d7 d8 m n o (g2:Imm Z wz (kI .u8) d6 d7 d8 Y) U w,FR 70 [] U [(0,(pP b)),(1,(pP g1)),(3,.slice m n o)]->SH r (blk b 140 [.slice d6 d7 d8]::blk g1 53 [.slice j k l]::own kS 9 j k l a1::own kS 9 m n o a::L) w->f9 U w:=by
  intro Y a G d6 d7 d8 m n o g2 U w J X;unfold mK at G;refine i7 _ _ (i1 _ _ ?_);refine ws λp9 i8=>xk 1 J rfl λU J=>aX tC (X.rd 3 rfl).2.1 J rfl λU J=>?_;obtain⟨i9,G⟩:=aC G;refine aO3 (d:=kB) (bytes:=1) false bEh rfl aPd i9 J X rfl λp U w X J=>x_m J rfl λU J=>wn (i8 _ _ ?_);refine wp_seq_k λq0 j0=>ws λq1 j1=>xk 1 J rfl λU J=>?_;replace X:=(SH.pure_ g2 X).pk 2;replace X:=aG (x:=(⟨Y⟩:S140)) X;refine kA G aW3 J rfl (λ_ h=>aDj h X (qz+4) t) (λC w X G=>?_) λC v U w f J G=>?_
  ·replace X:=(sT (x:=a1) (X.pk 3 |>.pk 3)).drop 2 |>.drop 2 |>.pk 1;cases G;exact u _ rfl _ _ J.defers X
  obtain⟨a2,a3,a4,rfl,X⟩:=f;obtain⟨j2,j3,j4,X⟩:=aB (X.pk 1);obtain⟨j5,X⟩:=(X.pk 1).unpure;refine aX bU (X.rd 1 rfl).2.1 J rfl λU J=>x_m J rfl λU J=>wn (j1 _ _ ?_);refine aA λg3 j6=>?_;have p3:∀a5 H d9,mJ a5 H d9=some y->∀e0 e1 e2 e3 e4 e5 (g4:Imm Z wz (kI .u8) e0 e1 e2 a5) U w,FR 70 [] U [(0,(pP b)),(1,(pP g1)),(5,.slice (some ⟨p,0,none⟩) ((a.length:Int).toNat) ((a.length:Int).toNat))]->SH r (blk b 140 [.slice e0 e1 e2]::blk g1 53 [.slice e3 e4 e5]::own kS 9 e3 e4 e5 H::own kB 4 (some ⟨p,0,none⟩) ((a.length:Int).toNat) ((a.length:Int).toNat) d9::L) w->g3 U w:=by
   intro a5 H d9 G e0 e1 e2 e3 e4 e5 g4 U w J X;unfold mJ at G;refine j6 _ _ (j0 _ _ ?_);refine aF (xk 2 J rfl λU J=>?_);obtain⟨q2,j7,G⟩:=bnd G;refine x_c bBy J rfl (xM j7 X (RdL.own 3 rfl (X.dropN 0)) :) λv U w f J=>?_;obtain⟨rfl,X⟩:=f;refine xk 1 J rfl λU J=>?_;replace X:=(SH.pure_ g4 X).pk 1;replace X:=aG (x:=(⟨a5⟩:S140)) X;refine kA G qZ J rfl (λ_ h=>aE h X (qz+3) t) (λj8 w X G=>?_) λj8 v U w f J G=>?_
   ·replace X:=(sT (x:=H) (X.pk 2 |>.pk 2)).drop 2 |>.pk 1;cases G;exact u _ rfl _ _ J.defers X
   obtain⟨rfl,X⟩:=f;refine wpList_nil ?_;replace X:=(sT (x:=H) (X.pk 2 |>.pk 2)).drop 2 |>.pk 1;cases G;refine p1 _ rfl _ _ (aHj Tryz.results112 J ?_);exact⟨rfl,X⟩
  obtain⟨j9,k0,G⟩:=bnd G;have g5:=G;have k1:∀I M N,(.inl (I,M,N))=j9->∀a6 a7 a8 a9 b1 b2 (g6:Imm Z wz (kI .u8) a6 a7 a8 I) U w,FR 70 [] U [(0,(pP b)),(1,(pP g1)),(5,.slice (some ⟨p,0,none⟩) ((a.length:Int).toNat) ((a.length:Int).toNat))]->SH r (blk b 140 [.slice a6 a7 a8]::blk g1 53 [.slice a9 b1 b2]::own kS 9 a9 b1 b2 M::own kB 4 (some ⟨p,0,none⟩) ((a.length:Int).toNat) ((a.length:Int).toNat) N::L) w->g3 U w:=by intro I M N ht a6 a7 a8 a9 b1 b2 g6 U w J X;subst ht;replace G:kZ I M N=some y:=G;unfold kZ at G;exact p3 I M N G a6 a7 a8 a9 b1 b2 g6 U w (J.sub _ rfl) X
  replace X:=X.pk 1 |>.pk 2 |>.pk 5 |>.pk 5 |>.pk 5 |>.pk 5;refine aV k0 (λs U w=>∃b3 b4 b5 z A B,Imm Z wz (kI .u8) b3 b4 b5 s.1/\FR 70 [] U [(0,(pP b)),(1,(pP g1)),(3,.slice m n o),(5,.slice (some ⟨p,0,none⟩) ((a.length:Int).toNat) ((a.length:Int).toNat)),(38,.slice a2 a3 a4),(39,.int .i64 (C.1.length:Int)),(40,.int .i64 s.2.2.2)]/\SH r (blk b 140 [.slice b3 b4 b5]::blk g1 53 [.slice z A B]::own kS 9 z A B s.2.1::own kS 9 m n o a::own kB 4 (some ⟨p,0,none⟩) ((a.length:Int).toNat) ((a.length:Int).toNat) s.2.2.1::own (kI .i64) 2 a2 a3 a4 C.1::L) w) ⟨j2,j3,j4,j,k,l,j5,J.sub _ rfl,X⟩ ?_;intro q3 k2 g7 G k3 e6 U w S;obtain⟨b6,q,b7,e7⟩:=k2;replace G:cE a C b6 q b7 e7=some g7:=G;unfold cE at G
  try dsimp only at S
  obtain⟨b3,b4,b5,z,A,B,e8,J,X⟩:=S;refine nz 1 J rfl λU J=>wp_seq_k λq4 k4=>aZ J G rfl (λk5 G=>?_) λk5 G=>?_
  ·refine wp_skip (k4 _ _ ?_);refine wp_seq_k λq5 k6=>aA λq6 k7=>ws λq7 k8=>?_;obtain⟨b8,g8,G⟩:=bnd G;refine fL bU sz2 (X.rd 5 rfl) g8 J rfl λU J=>?_;obtain⟨cs,T,k9⟩:=el (X.rd 5 rfl) g8;obtain rfl:=T;refine aN uu2 (k9 0 _ rfl) J rfl λU J=>x_m J rfl λU J=>wn (k8 _ _ ?_);refine wp_seq_k λl0 l1=>?_;have h8:∀e9,jQ a q b7 e7 b8 e9=some g7->∀b9 c0 c1 (g9:Imm Z wz (kI .u8) b9 c0 c1 e9) U w,FR 70 [] U [(0,(pP b)),(1,(pP g1)),(3,.slice m n o),(5,.slice (some ⟨p,0,none⟩) ((a.length:Int).toNat) ((a.length:Int).toNat)),(7,.int .i64 b8),(38,.slice a2 a3 a4),(39,.int .i64 (C.1.length:Int)),(40,.int .i64 e7)]->SH r (blk b 140 [.slice b9 c0 c1]::blk g1 53 [.slice z A B]::own kS 9 z A B q::own kS 9 m n o a::own kB 4 (some ⟨p,0,none⟩) ((a.length:Int).toNat) ((a.length:Int).toNat) b7::own (kI .i64) 2 a2 a3 a4 C.1::L) w->l0 U w:=by intro e9 G b9 c0 c1 g9 U w J X;unfold jQ at G;refine l1 _ _ (ws λq8 l2=>?_);refine xk 2 J rfl λU J=>?_;obtain⟨q9,h0,G⟩:=bnd G;refine fL aPd sz4 (X.rd 4 rfl) h0 J rfl λU J=>aR5 (z':=true) (off:=0) (vs:=[.bool true]) 4 sz4 J X rfl (hO h0).2.2 (λc h=>by cases h; rfl) (λU w X J=>?_) rfl rfl rfl rfl rfl rfl rfl rfl;refine wn (l2 _ _ ?_);refine wD [0,0,0,6,14,30,63,127] [5,6,7] rfl J X (by kernel_rfl) λw X=>?_;obtain⟨O,h1,G⟩:=bnd G;obtain⟨cs,T,l3⟩:=el (X.rd 4 rfl) h1;obtain rfl:=T;refine⟨[(0,.slice z A B),(1,.slice m n o),(2,.int .i64 b8),(3,.pointer (some (ea m (b8.toNat * 1)))),(4,str O)],?_⟩;refine dF [0,1,2,3,4] [5] (by kernel_rfl) ⟨pt [(1,_)] rfl (λU J=>aP tC (X.cell 2 rfl 0 _ rfl) J rfl rfl rfl),pm rfl,pm rfl,pt [(58,_),(59,_)] rfl (λU J=>eS tC sz9 (X.rd 4 rfl) h1 J rfl rfl rfl),pt [(60,_)] rfl (λU J=>aP uu9 (l3 0 _ rfl) J rfl rfl rfl),trivial⟩ ⟨et [(61,_)] rfl (λU J K hK=>?_),trivial⟩;refine eQ (d:=kS) (e:=9) (ps:=#[(0,str O)]) (cells:=[str O]) (xs:=[O]) (λw=>by kernel_rfl) rfl ⟨[str O],_,rfl,rfl,rfl⟩ J X rfl λr0 w X=>hK _ [] _ rfl (dF [0] [6] (by kernel_rfl) ⟨pt [(1,_)] rfl (λU J=>aP tC (X.cell 3 rfl 0 _ rfl) J rfl rfl rfl),trivial⟩ ⟨et [(57,_),(62,_)] rfl (λU J K hK=>?_),trivial⟩);obtain⟨l4,G⟩:=aC G;have hr:=X.rd 0 rfl;refine cN 4 aRf tC J X hr.1 hr.2.1 l4 rfl rfl λl5 l6 l7 w X=>hK _ [] _ rfl (dF [] [7] (by kernel_rfl) trivial ⟨et [(1,_),(63,_)] rfl (λU J K hK=>?_),trivial⟩);refine jR 4 bEz J X rfl rfl λw X=>hK _ [] _ rfl (qA [] (by kernel_rfl) trivial ⟨by kernel_rfl,by kernel_rfl⟩ [(0,_),(1,_),(3,_),(5,_),(38,_),(39,_),(40,_)] rfl (λU J=>?_));refine k7 _ _ (k6 _ _ ?_);refine aF (x_l G J rfl λr1 _ U J G=>?_);refine x_m J rfl λU J=>wpList_nil ?_;replace X:=X.drop 2 |>.pk 5 |>.pk 3 |>.pk 5 |>.pk 4 |>.pk 4 |>.pk 5;cases G;exact⟨_,k3 _ rfl,b9,c0,c1,l5,l6,l7,g9,J.sub _ rfl,X⟩
   refine aF (xk 4 J rfl λU J=>?_);refine bcG G (λP G=>?_) λP G=>?_
   ·refine xg 2 P J rfl rfl λU J=>aL P J ?_ rfl;refine aX tC (X.rd 3 rfl).2.1 J rfl λU J=>xg 2 P J rfl rfl λU J=>?_;replace X:=(SH.pure_ e8 X).pk 1;replace X:=aG (x:=(⟨b6⟩:S140)) X;refine kA G qZ J rfl (λ_ h=>aE h X (qz+5) t) (λf1 w X G=>?_) λf1 v U w f J G=>?_
    ·replace X:=(sT (x:=q) (X.pk 2 |>.pk 2)).drop 2 |>.drop 2 |>.drop 2 |>.pk 1;cases G;have ht:=e6 _ rfl;subst ht;replace G:=g5;replace G:some (.inr (f1,q))=some y:=G;cases G;exact u _ rfl _ _ J.defers X
    obtain⟨rfl,X⟩:=f;obtain⟨l8,l9,m0,X⟩:=aB X;obtain⟨m1,X⟩:=(X.pk 1).unpure;exact wpList_nil (h8 f1.f0 G l8 l9 m0 m1 U w (J.sub _ rfl) X)
   refine xg 5 P J rfl rfl λU J=>?_;replace X:=(SH.pure_ e8 X).pk 1;replace X:=aG (x:=(⟨b6⟩:S140)) X;refine kA G qZ J rfl (λ_ h=>aE h X (qz+5) t) (λf2 w X G=>?_) λf2 v U w f J G=>?_
   ·replace X:=(sT (x:=q) (X.pk 2 |>.pk 2)).drop 2 |>.drop 2 |>.drop 2 |>.pk 1;cases G;have ht:=e6 _ rfl;subst ht;replace G:=g5;replace G:some (.inr (f2,q))=some y:=G;cases G;exact u _ rfl _ _ J.defers X
   obtain⟨rfl,X⟩:=f;obtain⟨m2,m3,m4,X⟩:=aB X;obtain⟨m5,X⟩:=(X.pk 1).unpure;exact wpList_nil (h8 f2.f0 G m2 m3 m4 m5 U w (J.sub _ rfl) X)
  replace X:=X.drop 3 |>.drop 4;cases G;exact wp_exit (k1 b6 q b7 (e6 _ rfl) b3 b4 b5 z A B e8 U w (J.sub _ rfl) X)
 obtain⟨m6,m7,G⟩:=bnd G;have f3:=G;have m8:∀Q R,(.inl (Q,R))=m6->∀c2 c3 c4 c5 c6 c7 (h2:Imm Z wz (kI .u8) c2 c3 c4 Q) U w,FR 70 [] U [(0,(pP b)),(1,(pP g1)),(3,.slice c5 c6 c7)]->SH r (blk b 140 [.slice c2 c3 c4]::blk g1 53 [.slice j k l]::own kS 9 j k l a1::own kS 9 c5 c6 c7 R::L) w->f9 U w:=by intro Q R ht c2 c3 c4 c5 c6 c7 h2 U w J X;subst ht;replace G:kU a1 Q R=some y:=G;unfold kU at G;exact p2 Q R G c2 c3 c4 c5 c6 c7 h2 U w (J.sub _ rfl) X
 replace X:=(SH.nil_own (d:=kS) (e:=9) X).pk 3 |>.pk 3 |>.pk 3;refine aV m7 (λs U w=>∃c8 c9 d0 D E F,Imm Z wz (kI .u8) c8 c9 d0 s.1/\FR 70 [] U [(0,(pP b)),(1,(pP g1)),(3,.slice D E F),(9,.int .u64 W.1),(10,.int .u64 s.2.2)]/\SH r (blk b 140 [.slice c8 c9 d0]::blk g1 53 [.slice j k l]::own kS 9 j k l a1::own kS 9 D E F s.2.1::L) w) ⟨i3,i4,i5,none,0,0,i6,J.sub _ rfl,X⟩ ?_;intro r2 m9 h3 G n0 d1 U w S;obtain⟨f4,d2,f5⟩:=m9;replace G:dC a1 W f4 d2 f5=some h3:=G;unfold dC at G
 try dsimp only at S
 obtain⟨c8,c9,d0,D,E,F,h4,J,X⟩:=S;refine nz 1 J rfl λU J=>wp_seq_k λr3 n1=>aZ J G rfl (λn2 G=>?_) λn2 G=>?_
 ·refine wp_skip (n1 _ _ ?_);refine wp_seq_k λr4 n3=>aA λr5 n4=>ws λr6 n5=>xk 1 J rfl λU J=>?_;replace X:=(SH.pure_ h4 X).pk 1;replace X:=aG (x:=(⟨f4⟩:S140)) X;refine kA G aVc J rfl (λ_ h=>nO h X (qz+3) t) (λg w X G=>?_) λg v U w f J G=>?_
  ·replace X:=(sT (x:=a1) (X.pk 2 |>.pk 2)).drop 2 |>.pk 1;cases G;have ht:=d1 _ rfl;subst ht;replace G:=f3;replace G:some (.inr (g,a1))=some y:=G;cases G;exact u _ rfl _ _ J.defers X
  obtain⟨rfl,X⟩:=f;obtain⟨r7,r8,r9,X⟩:=aB X;obtain⟨h5,X⟩:=(X.pk 1).unpure;refine x_m J rfl λU J=>wn (n5 _ _ ?_);refine wp_seq_k λn6 n7=>?_;have h9:∀f6,hD d2 f5 g f6=some h3->∀d3 d4 d5 (h6:Imm Z wz (kI .u8) d3 d4 d5 f6) U w,FR 70 [] U [(0,(pP b)),(1,(pP g1)),(3,.slice D E F),(4,str g.1),(9,.int .u64 W.1),(10,.int .u64 f5)]->SH r (blk b 140 [.slice d3 d4 d5]::blk g1 53 [.slice j k l]::own kS 9 j k l a1::own kS 9 D E F d2::L) w->n6 U w:=by intro f6 G d3 d4 d5 h6 U w J X;unfold hD at G;refine n7 _ _ (aF ?_);refine xk 2 J rfl λU J=>kK (d:=kS) (e:=9) (ps:=#[(0,str g.1)]) (cells:=[str g.1]) (xs:=[g.1]) (λw=>by kernel_rfl) rfl ⟨[str g.1],_,rfl,rfl,rfl⟩ J X rfl λs0 U w X J=>?_;obtain⟨n8,G⟩:=aC G;have hr:=X.rd 0 rfl;refine lB 4 aRf tC J X hr.1 hr.2.1 n8 rfl rfl λn9 o0 o1 U w X J=>x_m J rfl λU J=>wpList_nil (n4 _ _ ?_);refine n3 _ _ (aF ?_);refine x_l G J rfl λs2 _ U J G=>x_m J rfl λU J=>wpList_nil ?_;replace X:=X.drop 1 |>.pk 3 |>.pk 3 |>.pk 3;cases G;exact⟨_,n0 _ rfl,d3,d4,d5,n9,o0,o1,h6,J.sub _ rfl,X⟩
  refine aF (xk 2 J rfl λU J=>?_);refine aX tC (X.rd 3 rfl).2.1 J rfl λU J=>xk 2 J rfl λU J=>bcG G (λi G=>?_) λi G=>?_
  ·refine xg 9 i J rfl rfl λU J=>?_;replace X:=aG (x:=g.2) ((SH.pure_ h5 X).pk 1);refine kA G qZ J rfl (λ_ h=>aE h X (qz+3) t) (λf7 w X G=>?_) λf7 v U w f J G=>?_
   ·replace X:=(sT (x:=a1) (X.pk 2 |>.pk 2)).drop 2 |>.pk 1;cases G;have ht:=d1 _ rfl;subst ht;replace G:=f3;replace G:some (.inr (f7,a1))=some y:=G;cases G;exact u _ rfl _ _ J.defers X
   obtain⟨rfl,X⟩:=f;obtain⟨o2,o3,o4,X⟩:=aB X;obtain⟨o5,X⟩:=(X.pk 1).unpure;exact wpList_nil (h9 f7.f0 G o2 o3 o4 o5 U w (J.sub _ rfl) X)
  refine xg 2 i J rfl rfl λU J=>aL i J ?_ rfl;refine aX tC (X.rd 3 rfl).2.1 J rfl λU J=>aL i J ?_ rfl;refine x_l G J rfl λs3 _ U J G=>aL i J ?_ rfl;obtain⟨s4,h7,G⟩:=bnd G;refine fL tC sz9 (X.rd 3 rfl) h7 J rfl λU J=>aL i J ?_ rfl;obtain⟨cs,T,o6⟩:=el (X.rd 3 rfl) h7;obtain rfl:=T;refine aN uu9 (o6 0 _ rfl) J rfl λU J=>xg 1 i J rfl rfl λU J=>aL i J ?_ rfl;refine x_v J (aQj rfl (J.ev rfl) (J.ev rfl)) rfl λU J=>xg 1 i J rfl rfl λU J=>?_;replace X:=aG (x:=g.2) ((SH.pure_ h5 X).pk 1);refine kA G qZ J rfl (λ_ h=>aE h X (qz+3) t) (λf8 w X G=>?_) λf8 v U w f J G=>?_
  ·replace X:=(sT (x:=a1) (X.pk 2 |>.pk 2)).drop 2 |>.pk 1;cases G;have ht:=d1 _ rfl;subst ht;replace G:=f3;replace G:some (.inr (f8,a1))=some y:=G;cases G;exact u _ rfl _ _ J.defers X
  obtain⟨rfl,X⟩:=f;obtain⟨o7,o8,o9,X⟩:=aB X;obtain⟨p0,X⟩:=(X.pk 1).unpure;exact wpList_nil (h9 f8.f0 G o7 o8 o9 p0 U w (J.sub _ rfl) X)
 cases G;exact wp_exit (m8 f4 d2 (d1 _ rfl) c8 c9 d0 D E F h4 U w (J.sub _ rfl) X)
theorem zQ {a0 f A0 n0 c0 b y} (G:pF a0 f=some y) (X:SH r (obj53 b f::L) w) (qz:Nat) (i:L[qz]?=some (zone Z wz)) (k:Imm Z wz (kI .u8) A0 n0 c0 a0) :
  Ret Tryz.prog 47 #[.slice A0 n0 c0,.func (.func 112) #[] #[.pointer (some ⟨b,0,none⟩)]] w λv w'=>v=.bool y.1/\SH r (obj53 b y.2::L) w':=by
 obtain⟨c,j,G⟩:=bnd G;refine Ret.mono_ (aCb (R:=λv w'=>v=.bool y.1/\SH r (obj53 b y.2::L) w') bBg X (λg s t a=>?_)) (λv w' h=>h);replace a:=aG (x:=⟨a0⟩) (a.pk 1 |> λh=>(SH.pure_ k (h.pk 1)).pk 1);replace a:=a.pk 1;replace a:=a.pk 2;replace a:=a.pk 2;rcases c with c | c
 ·replace G:=wO G;cases G;left;refine Ret.mono_ (RetS.lf (wI j a (qz+1) i :)) ?_;rintro v l ⟨rfl,X⟩;replace X:=X.pk 2 |>.pk 1;obtain⟨m,n,o,X⟩:=aB X;have p:=SH.unpure (X.pk 1);clear X;obtain⟨hi,X⟩:=p;refine⟨_,m,n,o,X,λq d=>⟨?_,d⟩⟩;rw [← hi.ln]
 ·replace G:=wL G;cases G;right;refine Calls.mono (RetS.rf (wI j a (qz+1) i :)) ?_;rintro e l ⟨rfl,X⟩;replace X:=X.pk 2 |>.drop 1;exact⟨rfl,_,X,λq d=>⟨rfl,d⟩⟩
theorem aDv {a0 A0 n0 c0 y} (G:oK a0=some y) (X:SH r (L) w) (qz:Nat) (q:L[qz]?=some (zone Z wz)) (s:Imm Z wz (kI .u8) A0 n0 c0 a0) :
  Ret Tryz.prog 96 #[.slice A0 n0 c0] w λv w'=>∃ (a:Option Addr) (b:Nat) (c:Nat),v=.tuple #[(.slice a b c),(.int .i64 y.2)]/\SH r (own kS 9 a b c y.1::L) w':=by
 refine enter Tryz.func96 rfl Tryz.ntmps96 [(0,_)] rfl (by simp) ?_;intro U J Qf f D;unfold oK at G;refine nz 2 J rfl λU J=>ws λu g=>fC (cs:=[.slice none 0 0]) bEf J X rfl λh U w X J=>wn (g _ _ ?_);refine ws λz i=>xk 1 J rfl λU J=>x_v J (gW rfl (lU (vals:=#[]) J rfl) (lU (vals:=#[.pointer (some ⟨h,0,none⟩)]) J rfl)) rfl λU J=>?_;replace X:=sT (x:=[]) ((SH.nil_own (d:=kS) (e:=9) X).pk 1);obtain⟨A,j,G⟩:=bnd G;refine x_c aT0 J rfl (zQ j X (qz+0) q s :) λv U w t J=>?_;obtain⟨rfl,X⟩:=t;obtain⟨k,l,m,X⟩:=aIy X;refine x_m J rfl λU J=>wn (i _ _ ?_);refine wp_seq_k λB n=>nz 2 J rfl λU J=>aZ J G rfl (λo G=>?_) λo G=>?_
 ·refine nz 2 J rfl λU J=>?_;replace X:=(SH.nil_own (d:=kS) (e:=9) X).drop 1 |>.drop 1;cases G;refine wp_ret (f _ _ ?_);exact lv2 Tryz.results96 J rfl rfl ⟨none,0,0,rfl,X⟩
 refine wp_skip (n _ _ ?_);refine ws λC p=>aN tC (X.cell 0 rfl 0 _ rfl) J rfl λU J=>nk 2 J rfl λU J=>?_;replace X:=X.drop 0;cases G;refine p _ _ (wp_ret ?_);refine f _ _ (lv2 Tryz.results96 J rfl rfl ?_);exact⟨k,l,m,rfl,X⟩
end
end Go.Proofs.YtdkpjpoajlmmfaaGreatDoor.M
namespace Go.Proofs
open Go.RowKit Go.Maps Go.Sort Go.Shelf
def Tryz.sortL_ren:Go.Shelf.Ren:=⟨fun | 190=>140 | 125=>151 | 258=>150 | 128=>161 | 129=>134 | 302=>153 | 303=>154 | 304=>155 | 305=>156 | 306=>157 | 307=>158 | 308=>142 | 309=>159 | 310=>160 | 333=>162 | 329=>163 | 330=>164 | 334=>165 | 335=>166 | 336=>152 | 344=>167 | n=>n,fun | 31=>53 | 9=>9 | 3=>3 | 46=>125 | 0=>0 | 51=>67 | 53=>24 | 4=>4 | 183=>216 | 182=>215 | 131=>100 | 5=>5 | 218=>221 | 222=>224 | 228=>226 | 229=>227 | n=>n,fun | n=>n⟩
theorem Tryz.sortL:Go.Proofs.Lays.n190 Tryz.prog Tryz.sortL_ren:={
 mixed:=by kernel_rfl
 f125:=Tryz.func151.trans (congrArg some (by kernel_rfl))
 f128:=Tryz.func161.trans (congrArg some (by kernel_rfl))
 f129:=Tryz.func134.trans (congrArg some (by kernel_rfl))
 f190:=Tryz.func140.trans (congrArg some (by kernel_rfl))
 f258:=Tryz.func150.trans (congrArg some (by kernel_rfl))
 f302:=Tryz.func153.trans (congrArg some (by kernel_rfl))
 f303:=Tryz.func154.trans (congrArg some (by kernel_rfl))
 f304:=Tryz.func155.trans (congrArg some (by kernel_rfl))
 f305:=Tryz.func156.trans (congrArg some (by kernel_rfl))
 f306:=Tryz.func157.trans (congrArg some (by kernel_rfl))
 f307:=Tryz.func158.trans (congrArg some (by kernel_rfl))
 f308:=Tryz.func142.trans (congrArg some (by kernel_rfl))
 f309:=Tryz.func159.trans (congrArg some (by kernel_rfl))
 f310:=Tryz.func160.trans (congrArg some (by kernel_rfl))
 f329:=Tryz.func163.trans (congrArg some (by kernel_rfl))
 f330:=Tryz.func164.trans (congrArg some (by kernel_rfl))
 f333:=Tryz.func162.trans (congrArg some (by kernel_rfl))
 f334:=Tryz.func165.trans (congrArg some (by kernel_rfl))
 f335:=Tryz.func166.trans (congrArg some (by kernel_rfl))
 f336:=Tryz.func152.trans (congrArg some (by kernel_rfl))
 f344:=Tryz.func167.trans (congrArg some (by kernel_rfl))
 t0:=Tryz.underlying0
 a0:=Tryz.isAgg0
 z0:=Tryz.sizeOf0
 v0:=Tryz.zeroValue0
 t3:=Tryz.underlying3
 a3:=Tryz.isAgg3
 z3:=Tryz.sizeOf3
 v3:=Tryz.zeroValue3
 t4:=Tryz.underlying4
 a4:=Tryz.isAgg4
 z4:=Tryz.sizeOf4
 v4:=Tryz.zeroValue4
 t5:=Tryz.underlying5
 a5:=Tryz.isAgg5
 z5:=Tryz.sizeOf5
 v5:=Tryz.zeroValue5
 t9:=Tryz.underlying9
 a9:=Tryz.isAgg9
 z9:=Tryz.sizeOf9
 v9:=Tryz.zeroValue9
 t31:=Tryz.underlying53
 a31:=Tryz.isAgg53
 z31:=Tryz.sizeOf53
 v31:=Tryz.zeroValue53
 t46:=Tryz.underlying125
 a46:=Tryz.isAgg125
 z46:=Tryz.sizeOf125
 v46:=Tryz.zeroValue125
 t51:=Tryz.underlying67
 a51:=Tryz.isAgg67
 z51:=Tryz.sizeOf67
 v51:=Tryz.zeroValue67
 t53:=Tryz.underlying24
 a53:=Tryz.isAgg24
 z53:=Tryz.sizeOf24
 v53:=Tryz.zeroValue24
 t131:=Tryz.underlying100
 a131:=Tryz.isAgg100
 z131:=Tryz.sizeOf100
 v131:=Tryz.zeroValue100
 t182:=Tryz.underlying215
 a182:=Tryz.isAgg215
 z182:=Tryz.sizeOf215
 v182:=Tryz.zeroValue215
 t183:=Tryz.underlying216
 a183:=Tryz.isAgg216
 z183:=Tryz.sizeOf216
 v183:=Tryz.zeroValue216
 t218:=Tryz.underlying221
 a218:=Tryz.isAgg221
 z218:=Tryz.sizeOf221
 v218:=Tryz.zeroValue221
 t222:=Tryz.underlying224
 a222:=Tryz.isAgg224
 z222:=Tryz.sizeOf224
 v222:=Tryz.zeroValue224
 t228:=Tryz.underlying226
 a228:=Tryz.isAgg226
 z228:=Tryz.sizeOf226
 v228:=Tryz.zeroValue226
 t229:=Tryz.underlying227
 a229:=Tryz.isAgg227
 z229:=Tryz.sizeOf227
 v229:=Tryz.zeroValue227 }
def Tryz.compactL_ren:Go.Shelf.Ren:=⟨fun | 194=>123 | n=>n,fun | 31=>53 | 9=>9 | 3=>3 | 4=>4 | 0=>0 | n=>n,fun | n=>n⟩
theorem Tryz.compactL:Go.Proofs.Lays.n194 Tryz.prog Tryz.compactL_ren:={
 mixed:=by kernel_rfl
 f194:=Tryz.func123.trans (congrArg some (by kernel_rfl))
 t0:=Tryz.underlying0
 a0:=Tryz.isAgg0
 z0:=Tryz.sizeOf0
 v0:=Tryz.zeroValue0
 t3:=Tryz.underlying3
 a3:=Tryz.isAgg3
 z3:=Tryz.sizeOf3
 v3:=Tryz.zeroValue3
 t4:=Tryz.underlying4
 a4:=Tryz.isAgg4
 z4:=Tryz.sizeOf4
 v4:=Tryz.zeroValue4
 t9:=Tryz.underlying9
 a9:=Tryz.isAgg9
 z9:=Tryz.sizeOf9
 v9:=Tryz.zeroValue9
 t31:=Tryz.underlying53
 a31:=Tryz.isAgg53
 z31:=Tryz.sizeOf53
 v31:=Tryz.zeroValue53 }
def Tryz.sortedL_ren:Go.Shelf.Ren:=⟨fun | 6=>124 | 8=>139 | 9=>140 | 11=>149 | 13=>151 | 12=>150 | 23=>161 | 24=>134 | 14=>153 | 15=>154 | 16=>155 | 17=>156 | 18=>157 | 19=>158 | 20=>142 | 21=>159 | 22=>160 | 25=>162 | 26=>163 | 27=>164 | 28=>165 | 29=>166 | 30=>152 | 31=>167 | n=>n,fun | 26=>9 | 28=>191 | 24=>53 | 0=>0 | 3=>3 | 37=>125 | 48=>67 | 50=>24 | 4=>4 | 40=>216 | 39=>215 | 45=>100 | 5=>5 | 9=>9 | 51=>221 | 55=>224 | 57=>226 | 58=>227 | 33=>133 | n=>n,fun | n=>n⟩
theorem Tryz.sortedL:Go.Proofs.SlLaysZ.n6 Tryz.prog Tryz.sortedL_ren:={
 mixed:=by kernel_rfl
 f6 := ⟨ "slices.Sorted[string]", by decide, Tryz.func124.trans (congrArg some (by kernel_rfl))⟩
 f8 := ⟨ "slices.Collect[string]", by decide, Tryz.func139.trans (congrArg some (by kernel_rfl))⟩
 f11 := ⟨ "slices.AppendSeq[[]string,string]", by decide, Tryz.func149.trans (congrArg some (by kernel_rfl))⟩
 t0:=Tryz.underlying0
 a0:=Tryz.isAgg0
 z0:=Tryz.sizeOf0
 v0:=Tryz.zeroValue0
 t24:=Tryz.underlying53
 a24:=Tryz.isAgg53
 z24:=Tryz.sizeOf53
 v24:=Tryz.zeroValue53
 t26:=Tryz.underlying9
 a26:=Tryz.isAgg9
 z26:=Tryz.sizeOf9
 v26:=Tryz.zeroValue9
 t28:=Tryz.underlying191
 a28:=Tryz.isAgg191
 z28:=Tryz.sizeOf191
 v28:=Tryz.zeroValue191
 i26:=by kernel_rfl }
set_option maxRecDepth 100000 in
set_option maxHeartbeats 2000000 in
theorem aKt (n:Nat) (hn:1<=n) (l Bx B:Nat) (f:World) (A:Option Addr) (c:Nat) (xs:List (List UInt8)) (hl:xs.length<=4611686018427387904) (J:List (List UInt8)->World->Prop)
  (i:∀ ss a,J ss a->Below B f a) (r:Bx<B) (s:f.cell? ⟨Bx,0,none⟩=some (.slice A xs.length c))
  (m:0<xs.length->∃ b off,A=some ⟨b,off,none⟩/\b<B/\∀ j x,xs[j]?=some x->f.cell? ⟨b,off+j,none⟩=some (encStr x))
  (t:∀ pre x a,J pre a->pre.length<xs.length->YieldAt Fence.wide (n - 1) Tryz.prog l #[encStr x] a λe d=>e=.returned (.bool true)/\J (pre++[x]) d/\KeepsWalks a d)
  (W:World) (h0:J [] W) :
  CallsIn Fence.wide n Tryz.prog 141 #[.func (.yield l) #[] #[],.pointer (some ⟨Bx,0,none⟩)] W λe d=>(∃ v,e=.returned v)/\J xs d:=by
 have u:=(i _ _ h0);have C:W.cell? ⟨Bx,0,none⟩=some (.slice A xs.length c):=(u.cell (p:=⟨Bx,0,none⟩) r).trans s;refine callsIn_of_wp Tryz.func141 rfl trivial ?_ rfl;simp only [Tryz.ntmps141,List.size_toArray,List.length_cons,List.length_nil,Nat.reduceAdd,Nat.reduceSub,Array.replicate_succ,Array.replicate_zero,List.push_toArray,List.append_toArray,List.nil_append,List.cons_append]
 gi_wp2
 gi_loopw [7] (λg wr=>∃ k:Nat,g=.int .i64 k/\k<=xs.length/\J (xs.take k) wr) (λg _=>match g with | .int .i64 k=>(xs.length:Int).toNat - k.toNat | _=>0)
 case atStart=>exact⟨0,rfl,Nat.zero_le _,by simpa using h0⟩
 case round =>
  obtain⟨k,rfl,hk,h⟩:=hrel;by_cases w:k<xs.length
  ·obtain⟨b,off,rfl,hb,o⟩:=m (by omega);have hx:=List.getElem?_eq_getElem w;have hc:=((i _ _ h).cell (p:=⟨b,off+k,none⟩) hb).trans (o k _ hx);obtain⟨x,q⟩:∃ x,x=xs[k]:=⟨_,rfl⟩;rw [← q] at hc hx;have D:(xs.take k).length=k:=by simp; omega
   obtain⟨fn,tmps,assign,body,E,y⟩:=t (xs.take k) x wr h (by omega);clear m o q
   gi_wp2
   refine y.mono ?_;rintro e F ⟨rfl,z,G⟩
   gi_wp2
   go_roundw
   case rel=>exact⟨k+1,by simp,by omega,by rw [List.take_add_one,hx]; exact z⟩
   case measure=>simp; omega
  ·have:k=xs.length:=by omega
   subst this
   gi_wp2
   go_end0
   exact⟨⟨_,rfl⟩,by simpa using h⟩
set_option maxRecDepth 100000 in
set_option maxHeartbeats 2000000 in
theorem aFe (Bx:Nat) (w:World) (A:Option Addr) (c:Nat) (xs:List (List UInt8)) (hl:xs.length * 16<=140737488355328) (z:Bx<w.heap.size) (B:w.cell? ⟨Bx,0,none⟩=some (.slice A xs.length c))
  (C:0<xs.length->∃ b off,A=some ⟨b,off,none⟩/\b<w.heap.size/\∀ j x,xs[j]?=some x->w.cell? ⟨b,off+j,none⟩=some (encStr x)) :
  Calls Tryz.prog 149 #[.slice none 0 0,.func (.func 141) #[] #[.pointer (some ⟨Bx,0,none⟩)]] w λe w'=>∃ v,e=.returned v/\w'.ownsRow w.heap.size 9 1 v xs.length (xs.map encStr)/\(v=.slice none 0 0↔xs=[])/\Below w.heap.size w w':=by
 refine (callsIn_wide (n:=5)).1 ?_;obtain⟨sv,p⟩:∃ sv:Value,sv=.func (.func 141) #[] #[.pointer (some ⟨Bx,0,none⟩)]:=⟨_,rfl⟩;have S:=p;refine callsIn_of_wp_marks Tryz.func149 rfl trivial ?_ rfl;simp only [Tryz.ntmps149,List.size_toArray,List.length_cons,List.length_nil,Nat.reduceAdd,Nat.reduceSub,Array.replicate_succ,Array.replicate_zero,List.push_toArray,List.append_toArray,List.nil_append,List.cons_append]
 gi_wp2
 refine wpIn_rangeFunc ?_;intro fn D;rw [show Fence.wide.round=none from rfl]
 let ρ:=Tryz.sortedL_ren
 obtain⟨a,m⟩:∃ a,w.alloc (.cells #[.slice none 0 0] 53)=a:=⟨_,rfl⟩;have E:a.heap.size=w.heap.size+1:=by rw [← m]; simp
 have F:a.heap[w.heap.size]?=some (.cells #[.slice none 0 0] 53 (0,0)):=by rw [← m]; exact World.alloc_heap_new w _
 have o:Below w.heap.size w a:=by rw [← m]; exact (Below.refl _ w).alloc (Nat.le_refl _) _
 rw [m];obtain⟨d,i⟩:∃ d,(a.alloc (.deferred (some []))).alloc (.loop (AnyZ.apRec ρ fn sv w.heap.size a.heap.size .ready none))=d:=⟨_,rfl⟩;have G:∀ k,k<a.heap.size->d.heap[k]?=a.heap[k]?:=λk hk=>by rw [← i]; exact (Below.heap_alloc _ _ k (by simp; omega)).trans (Below.heap_alloc _ _ k hk)
 have H:Below w.heap.size w d:=by rw [← i]; exact (o.alloc o.size _).alloc (by have:=o.size; simp; omega) _
 have I:AnyZ.ApAt ρ w fn sv w.heap.size (a.heap.size+1) a.heap.size [] d :=
  ⟨⟨_,(G w.heap.size (by omega)).trans F,⟨rfl,.inl ⟨rfl,rfl⟩⟩,by simp⟩,
   by rw [← i]; have:=World.alloc_heap_new (a.alloc (.deferred (some []))) (.loop (AnyZ.apRec ρ fn sv w.heap.size a.heap.size .ready none)); rwa [World.size_alloc] at this,
   by rw [← i]; exact (Below.heap_alloc _ _ _ (by simp)).trans (World.alloc_heap_new a _),H⟩
 refine⟨a.heap.size+1,[{ target:=.collected a.heap.size,args:=#[] }],d,{ target:=.fn (.func 141) #[.pointer (some ⟨Bx,0,none⟩)],args:=#[.func (.yield (a.heap.size+1)) #[] #[]] },d,141,
  #[.func (.yield (a.heap.size+1)) #[] #[]]++#[.pointer (some ⟨Bx,0,none⟩)],d,?_,?_,?_,?_,λ_=>by omega,?_⟩
 ·rw [← i,p]; exact run_enterLoop_outer _ _ _ _ _
 ·simp [resolve,go_sem]
 ·intro T U; trivial
 ·simp [invoke,go_sem]
 ·have J:=AnyZ.apYield (ρ:=ρ) (P:=Tryz.prog) { Tryz.sortedL with } Fence.wide 3 w fn D sv w.heap.size (a.heap.size+1) a.heap.size (by omega) (by omega) (by omega) (Nat.le_refl _) (by omega) xs.length (by unfold maxLen; omega) hl;refine (aKt 4 (by omega) (a.heap.size+1) Bx w.heap.size w A c xs (by omega) (AnyZ.ApAt ρ w fn sv w.heap.size (a.heap.size+1) a.heap.size) (λss d h=>h.below) z B C
   (λpre x W M N=>J pre x W M N) d I).mono ?_
  rintro e q ⟨⟨v0,rfl⟩,g⟩;obtain⟨v,O,hr,Q⟩:=g.box;have r:=run_endLoop (P:=Tryz.prog) g.L (by simp [AnyZ.apRec]);obtain⟨f,l⟩:∃ f,q.putObj (a.heap.size+1) (.loop { AnyZ.apRec ρ fn sv w.heap.size a.heap.size .ready none with state:=.exhausted })=f:=⟨_,rfl⟩;rw [l] at r;have s:q.grownBy f (some (a.heap.size+1)):=by rw [← l]; exact grownBy_putObj_a _ _ _
  have R:f.heap[w.heap.size]?=some (.cells #[v] 53 (0,0)):=by rw [← l]; exact (World.putObj_heap_other (by omega)).trans O
  have t:f.heap[a.heap.size]?=some (.deferred (some [])):=by rw [← l]; exact (World.putObj_heap_other (by omega)).trans g.K
  have u:=hr.kept s (ownsRow_ne_a hr g.L (λcur e=>by cases e));have y:Below w.heap.size w f:=g.below.grown s g.below.size (λk e=>by cases e; omega);obtain⟨X,Y⟩:=cell_of_box_a R;clear l;refine⟨none,f,r,?_⟩
  gi_wp2
  rw [← E];refine⟨by simp,.inl ⟨_,_,rfl,run_takeDeferred t,?_⟩⟩;exact⟨_,results_tmp rfl _ _ _,v,rfl,u.kept (grownBy_putObj_a _ _ _) (ownsRow_ne_a u t (λcur e=>by cases e)),Q,y.grown (grownBy_putObj_a _ _ _) y.size (λk e=>by cases e; omega)⟩
set_option maxRecDepth 100000 in
set_option maxHeartbeats 2000000 in
theorem aIv (Bx:Nat) (w:World) (A:Option Addr) (c:Nat) (xs:List (List UInt8)) (hl:xs.length * 16<=140737488355328) (a:Bx<w.heap.size) (d:w.cell? ⟨Bx,0,none⟩=some (.slice A xs.length c))
  (f:0<xs.length->∃ b off,A=some ⟨b,off,none⟩/\b<w.heap.size/\∀ j x,xs[j]?=some x->w.cell? ⟨b,off+j,none⟩=some (encStr x)) :
  Calls Tryz.prog 139 #[.func (.func 141) #[] #[.pointer (some ⟨Bx,0,none⟩)]] w λe w'=>∃ v,e=.returned v/\w'.ownsRow w.heap.size 9 1 v xs.length (xs.map encStr)/\(v=.slice none 0 0↔xs=[])/\Below w.heap.size w w':=by
 refine (callsIn_wide (n:=6)).1 ?_;have cS:=(callsIn_wide (n:=5)).2 (aFe Bx w A c xs hl a d f);refine callsIn_of_wp Tryz.func139 rfl trivial ?_ rfl;simp only [Tryz.ntmps139,List.size_toArray,List.length_cons,List.length_nil,Nat.reduceAdd,Nat.reduceSub,Array.replicate_succ,Array.replicate_zero,List.push_toArray,List.append_toArray,List.nil_append,List.cons_append];have h:Fence.wide.fn 149:=trivial
 gi_wp2_with (gi_at_call 149; refine cS.mono ?_; rintro e w' ⟨v,rfl,hr,g,hb⟩)
 go_ret
 exact⟨v,rfl,hr,g,hb⟩
set_option maxRecDepth 100000 in
set_option maxHeartbeats 2000000 in
theorem aI9 (Bx:Nat) (w:World) (A:Option Addr) (c:Nat) (xs:List (List UInt8)) (hl:xs.length * 16<=140737488355328) (f:Bx<w.heap.size) (g:w.cell? ⟨Bx,0,none⟩=some (.slice A xs.length c))
  (h:0<xs.length->∃ b off,A=some ⟨b,off,none⟩/\b<w.heap.size/\∀ j x,xs[j]?=some x->w.cell? ⟨b,off+j,none⟩=some (encStr x)) :
  Calls Tryz.prog 124 #[.func (.func 141) #[] #[.pointer (some ⟨Bx,0,none⟩)]] w λe w'=>∃ v,e=.returned v/\w'.ownsRow w.heap.size 9 1 v xs.length ((xs.mergeSort λx y=>decide (x<=y)).map encStr)/\(v=.slice none 0 0↔xs=[])/\Below w.heap.size w w':=by
 refine (callsIn_wide (n:=7)).1 ?_;have cS:=(callsIn_wide (n:=6)).2 (aIv Bx w A c xs hl f g h);refine callsIn_of_wp Tryz.func124 rfl trivial ?_ rfl;simp only [Tryz.ntmps124,List.size_toArray,List.length_cons,List.length_nil,Nat.reduceAdd,Nat.reduceSub,Array.replicate_succ,Array.replicate_zero,List.push_toArray,List.append_toArray,List.nil_append,List.cons_append];have t:Fence.wide.fn 139:=trivial;have u:Fence.wide.fn 140:=trivial
 gi_wp2_with (gi_at_call 139; refine cS.mono ?_; rintro e W ⟨v,rfl,hr,i,hb⟩)
 rcases hr.2 with ⟨rfl,hz⟩ | ⟨gb,cap,cur,rfl,d,a,k,l,m,o⟩
 ·have p:xs=[]:=List.eq_nil_of_length_eq_zero hz;subst p;have cT:=(callsIn_wide (n:=6)).2 (Any.slices_Sort_string_none Tryz.sortL none 0 W);change CallsIn _ _ Tryz.prog 140 _ _ _ at cT
  gi_wp2_with (gi_at_call 140; refine cT.mono ?_; rintro e w' ⟨rfl,rfl⟩)
  go_ret
  exact⟨_,rfl,by simpa using hr,by simp,hb⟩
 ·have q:Holds encStr W gb 0 xs.toArray:=holds_of_block a (by simpa using o);have r:gb<W.heap.size:=(Array.getElem?_eq_some_iff.1 a).1;have cT:=(callsIn_wide (n:=6)).2 (Any.slices_Sort_string Tryz.sortL gb 0 cap xs W q r (by omega));change CallsIn _ _ Tryz.prog 140 _ _ _ at cT
  gi_wp2_with (gi_at_call 140; refine cT.mono ?_; rintro e w' ⟨rfl,nn,os,rfl⟩)
  go_ret
  exact⟨_,rfl,ownsRow_sorted (by simp) d a k l m,i,hb.grown (grownBy_sorted _) hb.size (λj s=>by cases s; exact d)⟩
end Go.Proofs
namespace Go.Proofs.YtdkpjpoajlmmfaaGreatDoor.M
open Go Go.RowKit Go.Proofs.YtdkpjpoajlmmfaaGreatDoor.E
noncomputable def rA (a0:List (List UInt8)):Option (List (List UInt8)):=chk (a0.length * 16<=140737488355328) (some (a0.mergeSort λx y=>decide (x<=y)))
noncomputable def slices_Compact_string (a0:List (List UInt8)):Option (List (List UInt8)):=some (Lib.compact a0)
end Go.Proofs.YtdkpjpoajlmmfaaGreatDoor.M
