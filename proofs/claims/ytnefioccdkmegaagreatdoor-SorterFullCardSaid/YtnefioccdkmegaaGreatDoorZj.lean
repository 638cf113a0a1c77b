/- Texts of the claim, joined: what it uses of Mso, Ds0, Ms0, DlSorterFull, MlSorterFull, LSorterFull, DlSorterSorts, DlSorterPlans, DlSorterErrs, DlSorterRuns, DlSorterFalls, Qa, Qb. -/
import Derived.Test.YtnefioccdkmegaaGreatDoorZi
import Derived.Test.YtnefioccdkmegaaGreatDoorCards
import Derived.Test.YtnefioccdkmegaaGreatDoorTie
import Derived.SevenTiedAt
import Derived.LaidMore
import Derived.OpenShut
import Derived.Stop.Joined
import Derived.ProofKit
import Derived.IntWalk
namespace Go.Proofs.YtnefioccdkmegaaGreatDoor.M
open Go Go.RowKit Go.Proofs.YtnefioccdkmegaaGreatDoor.E
set_option linter.unusedVariables false
set_option maxRecDepth 100000
set_option maxHeartbeats 4000000
set_option linter.unusedSimpArgs false
section
variable {r:World} {L:List HP} {w:World} {Z:Nat→Prop} {wz:World}
theorem aBu {a0 y} (G:nA a0=some y) (X:SH r (L) w) :
  Ret Tryz.prog 19 #[.agg #[.int .i64 a0.f0,.int .i64 a0.f1]] w fun v w'=>v=.bool y∧SH r (L) w':=by
 refine enter Tryz.func19 rfl Tryz.ntmps19 [(0,_)] rfl (by simp) ?_
 intro U J Qf hQ hQn
 unfold nA at G
 refine ws fun f e=>mY J X (fun g U w X J=>?_) rfl
 refine x_m J rfl fun U J=>wn (e _ _ ?_)
 refine ws fun h d=>aL aLl J (fun U J=>?_) rfl
 refine aH uu3 (X.cell 0 rfl 0 _ rfl) J (fun U J=>?_) rfl
 refine xk 2 J rfl fun U J=>bcG G (fun a G=>?_) fun a G=>?_
 ·refine aJ a J ?_ rfl
  refine aL aLl J (fun U J=>?_) rfl
  refine aJ a J ?_ rfl
  refine aH uu3 (X.cell 0 rfl 0 _ rfl) J (fun U J=>?_) rfl
  refine xg 3 a J rfl rfl fun U J=>bcG G (fun b G=>?_) fun b G=>?_
  ·refine aJ b J ?_ rfl
   refine aL aL0 J (fun U J=>?_) rfl
   refine aJ b J ?_ rfl
   refine aH uu3 (X.cell 0 rfl 1 _ rfl) J (fun U J=>?_) rfl
   refine xg 3 b J rfl rfl fun U J=>bcG G (fun c G=>?_) fun c G=>?_
   ·refine aJ c J ?_ rfl
    refine aL aL0 J (fun U J=>?_) rfl
    refine aJ c J ?_ rfl
    refine aH uu3 (X.cell 0 rfl 1 _ rfl) J (fun U J=>?_) rfl
    refine ng 3 c J rfl rfl fun U J=>?_
    replace X:=X.drop 0
    cases G
    refine d _ _ (wp_ret ?_)
    refine hQ _ _ (lv Tryz.results19 J rfl ?_)
    exact⟨rfl,X⟩
   refine ng 5 c J rfl rfl fun U J=>?_
   replace X:=X.drop 0
   cases G
   refine d _ _ (wp_ret ?_)
   refine hQ _ _ (lv Tryz.results19 J rfl ?_)
   exact⟨rfl,X⟩
  refine xg 5 b J rfl rfl fun U J=>xO 3 rfl J rfl fun U J=>bT rfl J (fun U J=>?_) rfl
  refine x_m J rfl fun U J=>wn (d _ _ ?_)
  replace X:=X.drop 0
  cases G
  refine wp_ret (hQ _ _ ?_)
  exact lv Tryz.results19 J rfl ⟨rfl,X⟩
 refine xg 5 a J rfl rfl fun U J=>xO 3 rfl J rfl fun U J=>bT rfl J (fun U J=>?_) rfl
 refine x_m J rfl fun U J=>xO 3 rfl J rfl fun U J=>bT rfl J (fun U J=>?_) rfl
 refine x_m J rfl fun U J=>wn (d _ _ ?_)
 replace X:=X.drop 0
 cases G
 refine wp_ret (hQ _ _ ?_)
 exact lv Tryz.results19 J rfl ⟨rfl,X⟩
theorem vD {a0 a1 g0 l0 A1 n1 c1 y} (G:jJ a0 a1=some y) (X:SH r (obj67 l0 g0 a0::zone Z wz::L) w) (ha1:Imm Z wz k47 A1 n1 c1 a1) (hG1:Imm Z wz (kI .u32) (some ⟨1,0,none⟩) 16 16 cW) (hG2:Gb Z wz 2 .u64 cO) :
  Ret Tryz.prog 41 #[.pointer (some ⟨g0,0,none⟩),.slice A1 n1 c1] w fun v w'=>∃ (Z':Nat→Prop) (wz':World),v=.tuple #[(str y.1),(.int .i64 y.2.1)]∧Sub Z wz Z' wz'∧SH r (obj67 l0 g0 y.2.2::zone Z' wz'::L) w':=by
 refine aWq Tryz.func41 rfl Tryz.ntmps41 [(0,(pP g0)),(1,.slice A1 n1 c1)] rfl (by simp) ?_
 intro U J Qf hQ hQD
 unfold jJ at G
 obtain⟨a,b,f,X⟩:=bG ((mJ X).pk 1)
 refine nz 2 J rfl fun U J=>ws fun c2 S=>xk 2 J rfl fun U J=>aL aLq J (fun U J=>?_) rfl
 refine aH uu3 (X.cell 2 rfl 4 _ rfl) J (fun U J=>?_) rfl
 obtain⟨u,T,G⟩:=bnd G
 refine x_c bBf J rfl (aFq T X 3 rfl hG2 :) fun v U w hR J=>?_
 obtain⟨rfl,X⟩:=hR
 obtain⟨W,G⟩:=aB G
 refine x_v J (aWx rfl (J.ev rfl) (J.ev rfl) W) rfl fun U J=>x_m J rfl fun U J=>wn (S _ _ ?_)
 refine ws fun c3 Y=>xk 2 J rfl fun U J=>aL aLq J (fun U J=>?_) rfl
 refine aH uu3 (X.cell 2 rfl 4 _ rfl) J (fun U J=>?_) rfl
 refine x_l G J rfl fun m _ U J G=>xk 1 J rfl fun U J=>aL aLq J (fun U J=>?_) rfl
 refine dH 2 sz3 J X rfl (fun  U w X J=>?_) rfl
 refine wn (Y _ _ ?_)
 refine ws fun c4 a2=>gZ (cs:=[.slice none 0 0]) bBv J X (fun o U w X J=>?_) rfl
 refine wn (a2 _ _ ?_)
 refine wp_seq_k fun c5 a3=>ws fun c6 a4=>xk 1 J rfl fun U J=>x_c bAh J rfl (yB (L:=blk o 32 [.slice none 0 0]::blk g0 67 [.pointer (some ⟨l0,0,none⟩),.int .i64 a0.f1.f0,.int .i64 a0.f1.f1,.int .i64 a0.f2,.int .i64 m]::blk l0 58 [.slice a b f,.int .i64 a0.f0.f1,.int .i64 a0.f0.f2,.bool a0.f0.f3,.int .i64 a0.f0.f4]::own2 kp64 (kI .u8) 5 (fun x:S64=>x.f1) 64 a b f a0.f0.f0::zone Z wz::L) (A:=A1) (n:=n1) (c:=c1) (k:=64) (by decide) X) fun v U w hR J=>?_
 obtain⟨p,t,rfl,X⟩:=hR
 refine wn (a4 _ _ ?_)
 refine aA fun c7 a5=>?_
 replace X:=(SH.nil_own (d:=(kI .u8)) (e:=5) X).pk 7 |>.pk 1 |>.pk 7 |>.pk 4 |>.pk 4 |>.pk 5 |>.pk 7 |>.pk 7
 obtain⟨a6,F,G⟩:=bnd G
 obtain⟨a7,F⟩:=aB F
 refine aO3 (d:=k47) chunk_hands47.hands bAg rfl F (J.sub [(0,(pP g0)),(6,str ([114,117,110,46]++u)),(7,(pP o)),(23,.func (.func 52) #[] #[.pointer (some ⟨p,0,none⟩),(pP t)])] rfl) (Imm.pieces ha1) a7 (fun (s:((List Int))) E=>∃ (j:Nat→Prop) (l:World) (g:Option Addr) (h:Nat) (i:Nat),Sub Z wz j l∧Imm j l k47 A1 n1 c1 a1∧E=[blk g0 67 [.pointer (some ⟨l0,0,none⟩),.int .i64 a0.f1.f0,.int .i64 a0.f1.f1,.int .i64 a0.f2,.int .i64 m],blk l0 58 [.slice a b f,.int .i64 a0.f0.f1,.int .i64 a0.f0.f2,.bool a0.f0.f3,.int .i64 a0.f0.f4],blk o 32 [.slice g h i],blk p 22 [.slice A1 n1 c1],blk t 3 [.int .i64 64],own2 kp64 (kI .u8) 5 (fun x:S64=>x.f1) 64 a b f a0.f0.f0,own (kI .u8) 5 g h i s,zone j l]) [blk g0 67 [.pointer (some ⟨l0,0,none⟩),.int .i64 a0.f1.f0,.int .i64 a0.f1.f1,.int .i64 a0.f2,.int .i64 m],blk l0 58 [.slice a b f,.int .i64 a0.f0.f1,.int .i64 a0.f0.f2,.bool a0.f0.f3,.int .i64 a0.f0.f4],blk o 32 [.slice none 0 0],blk p 22 [.slice A1 n1 c1],blk t 3 [.int .i64 64],own2 kp64 (kI .u8) 5 (fun x:S64=>x.f1) 64 a b f a0.f0.f0,own (kI .u8) 5 none 0 0 [],zone Z wz] ⟨Z,wz,none,0,0,(Sub.refl _ _),ha1,rfl⟩ X ?_ ?_ ?_ rfl rfl rfl rfl rfl rfl
 ·rintro s E ⟨j,l,g,h,i,z,D,rfl⟩
  exact⟨3,4,_,_,rfl,rfl⟩
 ·intro lp k a8 a9 E B U w hlt G hX J X Qr hLO hK
  obtain⟨C,rfl⟩:∃ q,q=a8:=⟨_,rfl⟩
  try dsimp only at hX
  obtain⟨j,l,g,h,i,z,D,rfl⟩:=hX
  replace X:SH r (blk g0 67 [.pointer (some ⟨l0,0,none⟩),.int .i64 a0.f1.f0,.int .i64 a0.f1.f1,.int .i64 a0.f2,.int .i64 m]::blk l0 58 [.slice a b f,.int .i64 a0.f0.f1,.int .i64 a0.f0.f2,.bool a0.f0.f3,.int .i64 a0.f0.f4]::blk o 32 [.slice g h i]::blk p 22 [.slice A1 n1 c1]::blk t 3 [.int .i64 64]::own2 kp64 (kI .u8) 5 (fun x:S64=>x.f1) 64 a b f a0.f0.f0::own (kI .u8) 5 g h i C::zone j l::B) w:=X
  obtain⟨c8,c9,hpv,H⟩:=Imm.piece D rfl hlt
  replace J:=hpv▸J
  clear hpv
  generalize List.take 64 (List.drop (k * 64) a1)=b1 at G H
  replace G:jB C b1=some a9:=G
  unfold jB at G
  refine aBn fun d0 b2=>xM hLO (by kernel_rfl) (aH fE (X.cell 2 rfl 0 _ rfl) J (fun U J=>?_) rfl)
  refine x_m J rfl fun U J=>?_
  replace X:=X.pk 7 |>.pk 7
  obtain⟨b3,b4,G⟩:=bnd G
  refine x_c bBg J rfl (aKc b4 X H (Imm.sub hG1 z) :) fun v U w hR J=>?_
  obtain⟨P,Q,I,M,N,rfl,O,X⟩:=hR
  have d1:=Imm.sub H O
  have b5:=Imm.sub D O
  refine dH 4 aDb J X rfl (fun  U w X J=>?_) rfl
  refine wpList_nil ?_
  replace X:=X.pk 2 |>.pk 2 |>.pk 7 |>.pk 7 |>.pk 7 |>.pk 5 |>.pk 7 |>.pk 7
  obtain rfl:=Option.some.inj G
  exact b2 _ _ (hK _ _ [blk g0 67 [.pointer (some ⟨l0,0,none⟩),.int .i64 a0.f1.f0,.int .i64 a0.f1.f1,.int .i64 a0.f2,.int .i64 m],blk l0 58 [.slice a b f,.int .i64 a0.f0.f1,.int .i64 a0.f0.f2,.bool a0.f0.f3,.int .i64 a0.f0.f4],blk o 32 [.slice I M N],blk p 22 [.slice A1 n1 c1],blk t 3 [.int .i64 64],own2 kp64 (kI .u8) 5 (fun x:S64=>x.f1) 64 a b f a0.f0.f0,own (kI .u8) 5 I M N b3,zone P Q] ⟨P,Q,I,M,N,(Sub.trans z O),b5,rfl⟩ X)
 ·intro b6 E U w hX J X
  obtain⟨C,rfl⟩:∃ q,q=a6:=⟨_,rfl⟩
  try dsimp only at hX
  obtain⟨j,l,g,h,i,z,D,rfl⟩:=hX
  replace X:SH r (blk g0 67 [.pointer (some ⟨l0,0,none⟩),.int .i64 a0.f1.f0,.int .i64 a0.f1.f1,.int .i64 a0.f2,.int .i64 m]::blk l0 58 [.slice a b f,.int .i64 a0.f0.f1,.int .i64 a0.f0.f2,.bool a0.f0.f3,.int .i64 a0.f0.f4]::blk o 32 [.slice g h i]::blk p 22 [.slice A1 n1 c1]::blk t 3 [.int .i64 64]::own2 kp64 (kI .u8) 5 (fun x:S64=>x.f1) 64 a b f a0.f0.f0::own (kI .u8) 5 g h i C::zone j l::oX b6 (.deferred (some []))::L) w:=X
  replace G:lB a0 u m C=some y:=G
  unfold lB at G
  refine a5 _ _ (a3 _ _ ?_)
  refine wp_seq_k fun d2 b7=>cP [0,0,2,6,14,0,0,126,255,511] [7] rfl J X (by kernel_rfl) (by kernel_rfl) (by kernel_rfl) (by kernel_rfl) fun w X=>⟨[(0,str ([114,117,110,46]++u)),(1,(pP g0)),(2,(pP g0)),(3,(pP g0)),(4,(pP l0)),(5,str ([114,117,110,46]++u)),(6,.slice g h i)],?_⟩
  refine dF [0,1,2,3,4,5,6] [7] (by kernel_rfl) ⟨pm rfl,pm rfl,pt [(29,_)] rfl (fun U J=>dC rfl (J.ev rfl)),pt [(30,_)] rfl (fun U J=>eR aI3 J rfl rfl),pt [(31,_)] rfl (fun U J=>cM yU (X.cell 0 rfl 0 _ rfl) J rfl rfl rfl),pm rfl,pt [(7,_)] rfl (fun U J=>cM fE (X.cell 2 rfl 0 _ rfl) J rfl rfl rfl),trivial⟩ ⟨et [(32,_),(33,_),(34,_)] rfl (fun U J K hK=>?_),trivial⟩
  replace X:=SH.optS (aN (x:=a0.f0) (X.pk 5 |>.pk 2))
  obtain⟨b8,b9,G⟩:=bnd G
  refine nQ bA9 J (aAj b9 X (RdL.own 4 rfl (X.dropN 1)) :) (fun v w hR=>?_) rfl
  obtain⟨rfl,X⟩:=hR
  obtain⟨R,c0,G⟩:=bnd G
  rw [c0] at X
  obtain⟨d3,d4,d5,X⟩:=bG (SH.unoptP X)
  refine hK _ [(8,str ([114,117,110,46]++u)),(9,.int .i64 b8.1)] _ rfl (gK [0,8,9] (by kernel_rfl) ⟨pm rfl,pm rfl,pm rfl,trivial⟩ ⟨by kernel_rfl,by kernel_rfl⟩ [(0,_),(4,_),(5,_)] rfl (fun U J=>?_))
  replace X:=(aN (x:=R) (X.pk 1 |>.pk 1)).pk 1
  replace X:=(iN (x:=(⟨R,a0.f1,a0.f2,m⟩:S67)) X).drop 1 |>.drop 1 |>.drop 1 |>.drop 1 |>.pk 1 |>.pk 1
  cases G
  refine b7 _ _ (wp_ret ?_)
  exact hQD _ _ _ _ _ _ J (X.pk 2) fun U w J X=>lv2 Tryz.results41 J rfl rfl ⟨j,l,rfl,z,X⟩
theorem vC {a0 a1 g0 l0 y} (G:jI a0 a1=some y) (X:SH r (obj67 l0 g0 a0::zone Z wz::L) w) (hG1:Imm Z wz (kI .u32) (some ⟨1,0,none⟩) 16 16 cW) :
  Ret Tryz.prog 45 #[.pointer (some ⟨g0,0,none⟩),str a1] w fun v w'=>∃ (Z':Nat→Prop) (wz':World) (B0:Option Addr) (m0:Nat) (d0:Nat),v=.tuple #[(.slice B0 m0 d0),(.int .i64 y.2.1)]∧Sub Z wz Z' wz'∧SH r (own k47 47 B0 m0 d0 y.1::obj67 l0 g0 y.2.2::zone Z' wz'::L) w':=by
 refine enter Tryz.func45 rfl Tryz.ntmps45 [(0,_),(1,_)] rfl (by simp) ?_
 intro U J Qf hQ hQn
 unfold jI at G
 obtain⟨e2,e3,e4,X⟩:=bG ((mJ X).pk 1)
 refine nz 2 J rfl fun U J=>ws fun e5 a7=>xk 2 J rfl fun U J=>aL aI3 J (fun U J=>?_) rfl
 refine aH yU (X.cell 2 rfl 0 _ rfl) J (fun U J=>?_) rfl
 refine x_m J rfl fun U J=>?_
 replace X:=SH.optS (aN (x:=a0.f0) (X.pk 1 |>.pk 1))
 obtain⟨t,a8,G⟩:=bnd G
 refine x_c bCw J rfl (aBk a8 X :) fun v U w hR J=>?_
 obtain⟨u,z,B,rfl,X⟩:=hR
 obtain⟨a,b,f,X⟩:=bG (SH.unoptP (X.pk 1))
 refine xk 2 J rfl fun U J=>?_
 replace X:=X.pk 4 |>.pk 3
 obtain⟨a9,b1,X,b2,b3⟩:=SH.freeze (n:=z) (c:=B) (A:=u) X
 refine nk 3 J rfl fun U J=>a7 _ _ (nz 1 J rfl fun U J=>?_)
 refine wp_seq_k fun e6 b4=>nz 1 J rfl fun U J=>aA fun a2 b5=>?_
 have hb1:∀Q R,mD a0 a1 Q R=some y→∀l m C D E (S:Sub Z wz l m) U w,FR 52 [] U [(0,(pP g0)),(1,str a1),(7,.int .i64 Q),(8,.slice C D E)]→SH r (blk g0 67 [.pointer (some ⟨l0,0,none⟩),.int .i64 a0.f1.f0,.int .i64 a0.f1.f1,.int .i64 a0.f2,.int .i64 a0.f3]::blk l0 58 [.slice a b f,.int .i64 a0.f0.f1,.int .i64 a0.f0.f2,.bool a0.f0.f3,.int .i64 a0.f0.f4]::own2 kp64 (kI .u8) 5 (fun x:S64=>x.f1) 64 a b f a0.f0.f0::own k47 47 C D E R::zone l m::L) w→a2 U w:=by
  intro Q R G l m C D E S U w J X
  unfold mD at G
  refine b5 _ _ (b4 _ _ ?_)
  refine wp_seq_k fun e7 b6=>nz 2 J rfl fun U J=>bA J G rfl (fun b7 G=>?_) fun b7 G=>?_
  ·refine nz 3 J rfl fun U J=>?_
   replace X:=(iN (x:=a0) ((aN (x:=a0.f0) ((SH.nil_own (d:=k47) (e:=47) X).pk 3 |>.pk 3)).pk 2)).drop 2 |>.pk 2 |>.pk 1 |>.pk 2
   cases G
   refine wp_ret (hQ _ _ ?_)
   exact lv2 Tryz.results45 J rfl rfl ⟨l,m,none,0,0,rfl,S,X⟩
  refine wp_skip (b6 _ _ ?_)
  refine ws fun e8 b8=>xk 3 J rfl fun U J=>aL aI3 J (fun U J=>?_) rfl
  refine aH yU (X.cell 0 rfl 0 _ rfl) J (fun U J=>?_) rfl
  refine x_m J rfl fun U J=>?_
  replace X:=SH.optS (aN (x:=a0.f0) (X.pk 2 |>.pk 2))
  obtain⟨e9,b9,G⟩:=bnd G
  refine x_c aZz J rfl (uO b9 X :) fun v U w hR J=>?_
  obtain⟨rfl,X⟩:=hR
  obtain⟨a3,c0,G⟩:=bnd G
  rw [c0] at X
  obtain⟨f5,f6,f7,X⟩:=bG (SH.unoptP X)
  refine nk 2 J rfl fun U J=>?_
  replace X:=(aN (x:=a3) (X.pk 1 |>.pk 1)).pk 1
  replace X:=(iN (x:=(⟨a3,a0.f1,a0.f2,a0.f3⟩:S67)) X).pk 2 |>.pk 1 |>.pk 2
  cases G
  refine b8 _ _ (wp_ret ?_)
  refine hQ _ _ (lv2 Tryz.results45 J rfl rfl ?_)
  exact⟨l,m,C,D,E,rfl,S,X⟩
 obtain⟨c1,c2,G⟩:=bnd G
 have c3:∀o p,(o,p)=c1→∀F H I K M (a4:Sub Z wz F H) U w,FR 52 [] U [(0,(pP g0)),(1,str a1),(7,.int .i64 o),(8,.slice I K M)]→SH r (blk g0 67 [.pointer (some ⟨l0,0,none⟩),.int .i64 a0.f1.f0,.int .i64 a0.f1.f1,.int .i64 a0.f2,.int .i64 a0.f3]::blk l0 58 [.slice a b f,.int .i64 a0.f0.f1,.int .i64 a0.f0.f2,.bool a0.f0.f3,.int .i64 a0.f0.f4]::own2 kp64 (kI .u8) 5 (fun x:S64=>x.f1) 64 a b f a0.f0.f0::own k47 47 I K M p::zone F H::L) w→a2 U w:=by
  intro o p ht F H I K M a4 U w J X
  subst ht
  replace G:jU a0 a1 o p=some y:=G
  unfold jU at G
  exact hb1 o p G F H I K M a4 U w (J.sub _ rfl) X
 replace X:=(SH.nil_own (d:=k47) (e:=47) X).pk 1 |>.pk 1 |>.pk 3 |>.pk 3 |>.pk 4
 refine aD c2 (fun s U w=>∃g h i j k,Sub Z wz g h∧Imm g h (kI .u8) u z B t.1∧FR 52 [] U [(0,(pP g0)),(1,str a1),(6,.slice u z B),(7,.int .i64 s.1),(8,.slice i j k),(9,.int .i64 s.2.2)]∧SH r (blk g0 67 [.pointer (some ⟨l0,0,none⟩),.int .i64 a0.f1.f0,.int .i64 a0.f1.f1,.int .i64 a0.f2,.int .i64 a0.f3]::blk l0 58 [.slice a b f,.int .i64 a0.f0.f1,.int .i64 a0.f0.f2,.bool a0.f0.f3,.int .i64 a0.f0.f4]::own2 kp64 (kI .u8) 5 (fun x:S64=>x.f1) 64 a b f a0.f0.f0::own k47 47 i j k s.2.1::zone g h::L) w) ⟨a9,b1,none,0,0,b3,b2,J.sub _ rfl,X⟩ ?_
 intro f8 c4 a5 G c5 c6 U w hLab
 obtain⟨N,O,P⟩:=c4
 replace G:cZ a0 t N O P=some a5:=G
 unfold cZ at G
 try dsimp only at hLab
 obtain⟨g,h,i,j,k,T,W,J,X⟩:=hLab
 refine wp_seq_k fun f9 c7=>wp_seq_k fun c8 c9=>?_
 have hj1:∀Y,gO a0 t N O P Y=some a5→∀U w,FR 52 [] U [(0,(pP g0)),(1,str a1),(6,.slice u z B),(7,.int .i64 N),(8,.slice i j k),(9,.int .i64 P),(27,.bool Y)]→SH r (blk g0 67 [.pointer (some ⟨l0,0,none⟩),.int .i64 a0.f1.f0,.int .i64 a0.f1.f1,.int .i64 a0.f2,.int .i64 a0.f3]::blk l0 58 [.slice a b f,.int .i64 a0.f0.f1,.int .i64 a0.f0.f2,.bool a0.f0.f3,.int .i64 a0.f0.f4]::own2 kp64 (kI .u8) 5 (fun x:S64=>x.f1) 64 a b f a0.f0.f0::own k47 47 i j k O::zone g h::L) w→c8 U w:=by
  intro Y G U w J X
  unfold gO at G
  refine c9 _ _ (bA J G rfl (fun d1 G=>?_) fun d1 G=>?_)
  ·refine wp_skip (c7 _ _ ?_)
   refine aA fun g1 d2=>nz 1 J rfl fun U J=>ws fun g2 d3=>xk 4 J rfl fun U J=>aL aXb J (fun U J=>?_) rfl
   refine aH uu3 (X.cell 0 rfl 3 _ rfl) J (fun U J=>?_) rfl
   replace X:=X.pk 4
   obtain⟨g3,d4,G⟩:=bnd G
   refine x_c bB9 J rfl (aI5 d4 X W (Imm.sub hG1 T) :) fun v U w hR J=>?_
   obtain⟨d5,d6,g4,g5,g6,rfl,a6,X⟩:=hR
   have d7:=Imm.sub W a6
   refine nk 7 J rfl fun U J=>d3 _ _ (aC ?_)
   refine xk 2 J rfl fun U J=>?_
   obtain⟨d8,G⟩:=aB G
   have hr:=X.rd 0 rfl
   refine gH 5 aB5 eG J X hr.1 hr.2.1 d8 rfl (fun d9 e0 e1 U w X J=>?_) rfl
   refine x_m J rfl fun U J=>wpList_nil ?_
   replace X:=X.drop 1 |>.pk 1 |>.pk 1 |>.pk 4 |>.pk 4 |>.pk 4
   cases G
   exact d2 _ _ ⟨_,c5 _ rfl,d5,d6,d9,e0,e1,(Sub.trans T a6),d7,J.sub _ rfl,X⟩
  cases G
  exact wp_exit (c3 N O (c6 _ rfl) g h i j k T U w (J.sub _ rfl) X)
 refine aC (xk 3 J rfl fun U J=>?_)
 refine bcG G (fun q G=>?_) fun q G=>?_
 ·refine xg 2 q J rfl rfl fun U J=>aJ q J ?_ rfl
  refine aU fE (X.imm 4 W rfl).2.1 J (fun U J=>?_) rfl
  exact ng 2 q J rfl rfl fun U J=>hj1 (decide (P<(t.1.length:Int))) G U w (J.sub _ rfl) X
 exact ng 5 q J rfl rfl fun U J=>hj1 false G U w (J.sub _ rfl) X
theorem zH {a0 p0 y} (G:nX a0=some y) (X:SH r (sS (obj58) p0 a0::L) w) :
  Ret Tryz.prog 21 #[.pointer p0] w fun v w'=>v=.int .i64 y.1∧SH r (sS (obj58) p0 y.2::L) w':=by
 refine enter Tryz.func21 rfl Tryz.ntmps21 [(0,_)] rfl (by simp) ?_
 intro U J Qf hQ hQn
 unfold nX at G
 cases a0 with
 | none =>
  have hU:=SH.unoptN X
  clear X
  obtain⟨rfl,X⟩:=hU
  refine nz 1 J rfl fun U J=>wp_seq_k fun e2 e3=>ws fun e4 a6=>xk 1 J rfl fun U J=>x_v (v:=.bool true) J (uJ (p:=none) yU rfl (J.ev rfl) (J.ev rfl)) rfl fun U J=>wn (a6 _ _ ?_)
  refine c_t (b:=true) rfl J ?_ rfl
  refine nz 1 J rfl fun U J=>?_
  replace X:=SH.optN (obj58) X
  cases G
  refine wp_ret (hQ _ _ ?_)
  exact lv Tryz.results21 J rfl ⟨rfl,X⟩
 | some a7 =>
  have hU:=SH.unoptS X
  clear X
  obtain⟨a,rfl,X⟩:=hU
  obtain⟨e5,e6,e7,X⟩:=bG X
  refine nz 1 J rfl fun U J=>wp_seq_k fun e8 a8=>ws fun e9 a9=>xk 1 J rfl fun U J=>x_v (v:=.bool false) J (uJ (p:=some ⟨a,0,none⟩) yU rfl (J.ev rfl) (J.ev rfl)) rfl fun U J=>wn (a9 _ _ ?_)
  refine c_f (b:=false) rfl J ?_ rfl
  refine wp_skip (a8 _ _ ?_)
  refine wp_seq_k fun f5 b1=>ws fun f6 b2=>xk 1 J rfl fun U J=>?_
  replace X:=SH.optS (aN (x:=a7) (X.pk 1 |>.pk 1))
  obtain⟨d,b3,G⟩:=bnd G
  refine x_c aX6 J rfl (wH b3 X :) fun v U w hR J=>?_
  obtain⟨m,n,o,rfl,X⟩:=hR
  obtain⟨b4,b5,b6,X⟩:=bG (SH.unoptP (X.pk 1))
  refine aU lG (X.rd 2 rfl).2.1 J (fun U J=>?_) rfl
  refine x_m J rfl fun U J=>wn (b2 _ _ ?_)
  refine aA fun a2 b7=>?_
  have hb1:∀q t u z A,uV q t u z A=some y→∀P Q R U w,FR 24 [] U [(0,(pP a))]→SH r (blk a 58 [.slice P Q R,.int .i64 t,.int .i64 u,.bool z,.int .i64 A]::own2 kp64 (kI .u8) 5 (fun x:S64=>x.f1) 64 P Q R q::L) w→a2 U w:=by
   intro q t u z A G P Q R U w J X
   unfold uV at G
   refine b7 _ _ (b1 _ _ ?_)
   refine nz 1 J rfl fun U J=>?_
   replace X:=X.pk 1 |>.pk 1
   replace X:=SH.optS (aN (x:=(⟨q,t,u,z,A⟩:S58)) X)
   cases G
   refine wp_ret (hQ _ _ ?_)
   exact lv Tryz.results21 J rfl ⟨rfl,X⟩
  obtain⟨b8,b9,G⟩:=bnd G
  have c0:=G
  have c1:∀e f g h i,(.inl (e,f,g,h,i))=b8→∀B C D U w,FR 24 [] U [(0,(pP a))]→SH r (blk a 58 [.slice B C D,.int .i64 f,.int .i64 g,.bool h,.int .i64 i]::own2 kp64 (kI .u8) 5 (fun x:S64=>x.f1) 64 B C D e::L) w→a2 U w:=by
   intro e f g h i ht B C D U w J X
   subst ht
   replace G:oW e f g h i=some y:=G
   unfold oW at G
   exact hb1 e f g h i G B C D U w (J.sub _ rfl) X
  refine aD b9 (fun s U w=>∃j k l,FR 24 [] U [(0,(pP a)),(9,.slice m n o),(10,.int .i64 (d.length:Int)),(11,.int .i64 s.2.2.2.2.2)]∧SH r (blk a 58 [.slice j k l,.int .i64 s.2.1,.int .i64 s.2.2.1,.bool s.2.2.2.1,.int .i64 s.2.2.2.2.1]::own2 kp64 (kI .u8) 5 (fun x:S64=>x.f1) 64 j k l s.1::own kS 9 m n o d::L) w) ⟨b4,b5,b6,J.sub _ rfl,X⟩ ?_
  intro f7 c2 a3 G c3 a4 U w hLab
  obtain⟨E,F,H,I,K,S⟩:=c2
  replace G:eD d E F H I K S=some a3:=G
  unfold eD at G
  try dsimp only at hLab
  obtain⟨j,k,l,J,X⟩:=hLab
  refine nz 1 J rfl fun U J=>wp_seq_k fun f8 c4=>bA J G rfl (fun c5 G=>?_) fun c5 G=>?_
  ·refine wp_skip (c4 _ _ ?_)
   refine wp_seq_k fun f9 c6=>aA fun c7 c8=>?_
   have hb2:∀T W Y Z a1,lN S T W Y Z a1=some a3→∀M N O U w,FR 24 [] U [(0,(pP a)),(9,.slice m n o),(10,.int .i64 (d.length:Int)),(11,.int .i64 S)]→SH r (blk a 58 [.slice M N O,.int .i64 W,.int .i64 Y,.bool Z,.int .i64 a1]::own2 kp64 (kI .u8) 5 (fun x:S64=>x.f1) 64 M N O T::own kS 9 m n o d::L) w→c7 U w:=by
    intro T W Y Z a1 G M N O U w J X
    unfold lN at G
    refine c8 _ _ (c6 _ _ ?_)
    refine aC (x_l G J rfl fun g0 _ U J G=>?_)
    refine x_m J rfl fun U J=>wpList_nil ?_
    cases G
    exact⟨_,c3 _ rfl,M,N,O,J.sub _ rfl,X⟩
   refine ws fun g1 c9=>?_
   obtain⟨g2,a5,G⟩:=bnd G
   refine fG lG sz9 (X.rd 2 rfl) a5 J (fun U J=>?_) rfl
   obtain⟨cs,hV,d0⟩:=el (X.rd 2 rfl) a5
   obtain rfl:=hV
   refine aH uu9 (d0 0 _ rfl) J (fun U J=>?_) rfl
   refine x_m J rfl fun U J=>wn (c9 _ _ ?_)
   refine ws fun g3 d1=>xk 1 J rfl fun U J=>?_
   obtain⟨g4,d2,G⟩:=bnd G
   refine x_c bCy J rfl (aA8 d2 X :) fun v U w hR J=>?_
   obtain⟨rfl,X⟩:=hR
   refine wn (d1 _ _ ?_)
   refine bA J G rfl (fun d3 G=>?_) fun d3 G=>?_
   ·refine ws fun g5 d4=>xk 2 J rfl fun U J=>?_
    replace X:=X.pk 1 |>.pk 1
    replace X:=SH.optS (aN (x:=(⟨E,F,H,I,K⟩:S58)) X)
    obtain⟨d5,d6,G⟩:=bnd G
    refine x_c aZz J rfl (uO d6 X :) fun v U w hR J=>?_
    obtain⟨rfl,X⟩:=hR
    obtain⟨c,d7,G⟩:=bnd G
    rw [d7] at X
    obtain⟨d8,d9,e0,X⟩:=bG (SH.unoptP X)
    refine x_m J rfl fun U J=>wn (d4 _ _ ?_)
    refine nz 2 J rfl fun U J=>bA J G rfl (fun e1 G=>?_) fun e1 G=>?_
    ·refine nz 2 J rfl fun U J=>?_
     replace X:=(SH.optS (aN (x:=c) (X.pk 1 |>.pk 1))).drop 1
     cases G
     refine wp_ret ?_
     have ht:=a4 _ rfl
     subst ht
     replace G:=c0
     replace G:some (d5.1,some c)=some y:=G
     cases G
     refine hQ _ _ (lv Tryz.results21 J rfl ?_)
     exact⟨rfl,X⟩
    exact wp_skip (hb2 c.f0 c.f1 c.f2 c.f3 c.f4 G d8 d9 e0 U w (J.sub _ rfl) X)
   exact wp_skip (hb2 E F H I K G j k l U w (J.sub _ rfl) X)
  replace X:=X.drop 2
  cases G
  exact wp_exit (c1 E F H I K (a4 _ rfl) j k l U w (J.sub _ rfl) X)
theorem aBt {a0 a1 g0 l0 A1 n1 c1 y} (G:mW a0 a1=some y) (X:SH r (obj67 l0 g0 a0::zone Z wz::L) w) (ha1:Imm Z wz kS A1 n1 c1 a1) (hG1:Imm Z wz (kI .u32) (some ⟨1,0,none⟩) 16 16 cW) (hG2:Gb Z wz 2 .u64 cO) :
  Ret Tryz.prog 44 #[.pointer (some ⟨g0,0,none⟩),.slice A1 n1 c1] w fun v w'=>∃ (Z':Nat→Prop) (wz':World),v=.tuple #[(str y.1),(.int .i64 y.2.1)]∧Sub Z wz Z' wz'∧SH r (obj67 l0 g0 y.2.2::zone Z' wz'::L) w':=by
 refine enter Tryz.func44 rfl Tryz.ntmps44 [(0,_),(1,_)] rfl (by simp) ?_
 intro U J Qf hQ hQn
 unfold mW at G
 obtain⟨e6,e7,e8,X⟩:=bG ((mJ X).pk 1)
 refine nz 2 J rfl fun U J=>wp_seq_k fun k1 e9=>ws fun k2 f2=>xk 1 J rfl fun U J=>aU lG (X.imm 3 ha1 rfl).2.1 J (fun U J=>?_) rfl
 refine nk 1 J rfl fun U J=>f2 _ _ (bA J G rfl (fun f3 G=>?_) fun f3 G=>?_)
 ·refine ws fun k3 f4=>xk 1 J rfl fun U J=>?_
  obtain⟨k4,d6,G⟩:=bnd G
  refine fG lG sz9 (X.imm 3 ha1 rfl) d6 J (fun U J=>?_) rfl
  obtain⟨cs,hV,f5⟩:=el (X.imm 3 ha1 rfl) d6
  obtain rfl:=hV
  refine aH uu9 (f5 0 _ rfl) J (fun U J=>?_) rfl
  refine nk 2 J rfl fun U J=>?_
  replace X:=(iN (x:=a0) ((aN (x:=a0.f0) (X.pk 1 |>.pk 1)).pk 1)).pk 1 |>.pk 1
  cases G
  refine f4 _ _ (wp_ret ?_)
  refine hQ _ _ (lv2 Tryz.results44 J rfl rfl ?_)
  exact⟨Z,wz,rfl,(Sub.refl _ _),X⟩
 refine wp_skip (e9 _ _ ?_)
 refine nz 1 J rfl fun U J=>wp_seq_k fun k5 f6=>ws fun k6 f7=>xk 1 J rfl fun U J=>aU lG (X.imm 3 ha1 rfl).2.1 J (fun U J=>?_) rfl
 refine x_m J rfl fun U J=>wn (f7 _ _ ?_)
 refine aA fun d7 f8=>?_
 have hb1:∀a b f g h k l m o c3,mO a b f g h k l m o c3=some y→∀p q c4 c5 c6 c7 c8 c9 (t:Sub Z wz p q) U w,FR 52 [] U [(0,(pP g0)),(6,.slice c7 c8 c9)]→SH r (blk g0 67 [.pointer (some ⟨l0,0,none⟩),.int .i64 k,.int .i64 l,.int .i64 m,.int .i64 o]::blk l0 58 [.slice c4 c5 c6,.int .i64 b,.int .i64 f,.bool g,.int .i64 h]::own2 kp64 (kI .u8) 5 (fun x:S64=>x.f1) 64 c4 c5 c6 a::own (kM p q k47) 22 c7 c8 c9 c3::zone p q::L) w→d7 U w:=by
  intro a b f g h k l m o c3 G p q c4 c5 c6 c7 c8 c9 t U w J X
  unfold mO at G
  refine f8 _ _ (f6 _ _ ?_)
  refine ws fun k7 f9=>xk 1 J rfl fun U J=>?_
  obtain⟨k8,g1,G⟩:=bnd G
  refine x_c bBm J rfl (aLb g1 X 4 rfl (RdL.own 3 rfl (X.dropN 0)) :) fun v U w hR J=>?_
  obtain⟨g2,g3,g4,rfl,X⟩:=hR
  refine nk 5 J rfl fun U J=>f9 _ _ (wp_seq_k fun k9 g5=>?_)
  refine nz 2 J rfl fun U J=>bA J G rfl (fun g6 G=>?_) fun g6 G=>?_
  ·refine nz 3 J rfl fun U J=>?_
   replace X:=X.pk 3 |>.pk 3
   replace X:=(aN (x:=(⟨a,b,f,g,h⟩:S58)) X).pk 2
   replace X:=(iN (x:=(⟨(⟨a,b,f,g,h⟩:S58),(⟨k,l⟩:S26),m,o⟩:S67)) X).drop 1 |>.drop 1 |>.pk 1 |>.pk 1
   cases G
   refine wp_ret (hQ _ _ ?_)
   exact lv2 Tryz.results44 J rfl rfl ⟨p,q,rfl,t,X⟩
  refine wp_skip (g5 _ _ ?_)
  refine ws fun l1 g7=>xk 2 J rfl fun U J=>?_
  replace X:=X.pk 5 |>.pk 1
  obtain⟨g8,g9,X,d8,P⟩:=SH.freeze (n:=g3) (c:=g4) (A:=g2) X
  replace X:=(X.pk 4).kind (d':=(kM g8 g9 k47)) rfl (aC5 P)
  replace X:=X.pk 4 |>.pk 4
  replace X:=(aN (x:=(⟨a,b,f,g,h⟩:S58)) X).pk 3
  replace X:=(iN (x:=(⟨(⟨a,b,f,g,h⟩:S58),(⟨k,l⟩:S26),m,o⟩:S67)) X).pk 2 |>.pk 1
  obtain⟨d9,h0,G⟩:=bnd G
  refine x_c bAv J rfl (vD h0 X d8 (Imm.sub hG1 (Sub.trans t P)) (Gb.sub hG2 (Sub.trans t P)) :) fun v U w hR J=>?_
  obtain⟨e0,e1,rfl,d0,X⟩:=hR
  have l2:=Imm.sub d8 d0
  replace X:=(X.pk 2).kind (d':=(kM e0 e1 k47)) rfl (aC5 d0)
  obtain⟨l3,l4,l5,X⟩:=bG ((mJ (X.pk 1)).pk 1)
  refine nk 4 J rfl fun U J=>?_
  replace X:=(iN (x:=d9.2.2) ((aN (x:=d9.2.2.f0) (X.pk 1 |>.pk 1)).pk 1)).drop 1 |>.pk 1 |>.pk 1
  cases G
  refine g7 _ _ (wp_ret ?_)
  refine hQ _ _ (lv2 Tryz.results44 J rfl rfl ?_)
  exact⟨e0,e1,rfl,(Sub.trans (Sub.trans t P) d0),X⟩
 obtain⟨h1,h2,G⟩:=bnd G
 have h3:=G
 have h4:∀u z B C D E F H I K,(.inl (u,z,B,C,D,E,F,H,I,K))=h1→∀M N Q R S T W Y (e2:Sub Z wz M N) U w,FR 52 [] U [(0,(pP g0)),(6,.slice T W Y)]→SH r (blk g0 67 [.pointer (some ⟨l0,0,none⟩),.int .i64 E,.int .i64 F,.int .i64 H,.int .i64 I]::blk l0 58 [.slice Q R S,.int .i64 z,.int .i64 B,.bool C,.int .i64 D]::own2 kp64 (kI .u8) 5 (fun x:S64=>x.f1) 64 Q R S u::own (kM M N k47) 22 T W Y K::zone M N::L) w→d7 U w:=by
  intro u z B C D E F H I K ht M N Q R S T W Y e2 U w J X
  subst ht
  replace G:lD u z B C D E F H I K=some y:=G
  unfold lD at G
  exact hb1 u z B C D E F H I K G M N Q R S T W Y e2 U w (J.sub _ rfl) X
 replace X:=(SH.nil_own (d:=(kM Z wz k47)) (e:=22) X).pk 4 |>.pk 1 |>.pk 3 |>.pk 3 |>.pk 4
 refine aD h2 (fun s U w=>∃i j a2 a3 a4 a5 a6 a7,Sub Z wz i j∧Imm i j kS A1 n1 c1 a1∧FR 52 [] U [(0,(pP g0)),(6,.slice a5 a6 a7),(19,.slice A1 n1 c1),(20,.int .i64 (a1.length:Int)),(21,.int .i64 s.2.2.2.2.2.2.2.2.2.2)]∧SH r (blk g0 67 [.pointer (some ⟨l0,0,none⟩),.int .i64 s.2.2.2.2.2.1,.int .i64 s.2.2.2.2.2.2.1,.int .i64 s.2.2.2.2.2.2.2.1,.int .i64 s.2.2.2.2.2.2.2.2.1]::blk l0 58 [.slice a2 a3 a4,.int .i64 s.2.1,.int .i64 s.2.2.1,.bool s.2.2.2.1,.int .i64 s.2.2.2.2.1]::own2 kp64 (kI .u8) 5 (fun x:S64=>x.f1) 64 a2 a3 a4 s.1::own (kM i j k47) 22 a5 a6 a7 s.2.2.2.2.2.2.2.2.2.1::zone i j::L) w) ⟨Z,wz,e6,e7,e8,none,0,0,(Sub.refl _ _),ha1,J.sub _ rfl,X⟩ ?_
 intro l6 h5 h6 G h7 e3 U w hLab
 obtain⟨a8,a9,b1,b2,b3,d1,d2,d3,d4,e4,h8⟩:=h5
 replace G:fA a1 a8 a9 b1 b2 b3 d1 d2 d3 d4 e4 h8=some h6:=G
 unfold fA at G
 try dsimp only at hLab
 obtain⟨i,j,a2,a3,a4,a5,a6,a7,b4,d5,J,X⟩:=hLab
 refine nz 1 J rfl fun U J=>wp_seq_k fun l7 h9=>bA J G rfl (fun i0 G=>?_) fun i0 G=>?_
 ·refine wp_skip (h9 _ _ ?_)
  refine wp_seq_k fun l8 i1=>aA fun l9 i2=>ws fun m0 i3=>?_
  obtain⟨m1,e5,G⟩:=bnd G
  refine fG lG sz9 (X.imm 4 d5 rfl) e5 J (fun U J=>?_) rfl
  obtain⟨cs,hV,i4⟩:=el (X.imm 4 d5 rfl) e5
  obtain rfl:=hV
  refine aH uu9 (i4 0 _ rfl) J (fun U J=>?_) rfl
  refine x_m J rfl fun U J=>wn (i3 _ _ ?_)
  refine ws fun m2 i5=>xk 2 J rfl fun U J=>?_
  replace X:=X.pk 2 |>.pk 2
  replace X:=(aN (x:=(⟨a8,a9,b1,b2,b3⟩:S58)) X).pk 1
  replace X:=(iN (x:=(⟨(⟨a8,a9,b1,b2,b3⟩:S58),(⟨d1,d2⟩:S26),d3,d4⟩:S67)) X).pk 2 |>.pk 1
  obtain⟨O,i6,G⟩:=bnd G
  refine x_c bA1 J rfl (vC i6 X (Imm.sub hG1 b4) :) fun v U w hR J=>?_
  obtain⟨i7,i8,b5,b6,b7,rfl,b8,X⟩:=hR
  have i9:=Imm.sub d5 b8
  replace X:=(X.pk 3).kind (d':=(kM i7 i8 k47)) rfl (aC5 b8)
  obtain⟨j0,j1,j2,X⟩:=bG ((mJ (X.pk 2)).pk 1)
  refine xk 2 J rfl fun U J=>?_
  replace X:=X.pk 5 |>.pk 5
  obtain⟨b9,c0,X,j3,c2⟩:=SH.freeze (n:=b6) (c:=b7) (A:=b5) X
  have j4:=Imm.sub i9 c2
  replace X:=(X.pk 4).kind (d':=(kM b9 c0 k47)) rfl (aC5 c2)
  refine nk 3 J rfl fun U J=>i5 _ _ (wp_seq_k fun m3 j5=>?_)
  refine nz 2 J rfl fun U J=>bA J G rfl (fun j6 G=>?_) fun j6 G=>?_
  ·refine nz 3 J rfl fun U J=>?_
   replace X:=(iN (x:=O.2.2) ((aN (x:=O.2.2.f0) (X.pk 3 |>.pk 3)).pk 3)).drop 1 |>.pk 1 |>.pk 1
   cases G
   refine wp_ret ?_
   have ht:=e3 _ rfl
   subst ht
   replace G:=h3
   replace G:some ([],O.2.1,O.2.2)=some y:=G
   cases G
   refine hQ _ _ (lv2 Tryz.results44 J rfl rfl ?_)
   exact⟨b9,c0,rfl,(Sub.trans (Sub.trans b4 b8) c2),X⟩
  refine wp_skip (j5 _ _ ?_)
  refine aC (xk 2 J rfl fun U J=>?_)
  refine iM (d:=(kM b9 c0 k47)) (e:=22) (ps:=#[(0,.slice b5 b6 b7)]) (cells:=[.slice b5 b6 b7]) (xs:=[O.1]) (fun w=>by kernel_rfl) rfl ⟨[.slice b5 b6 b7],_,rfl,⟨_,_,_,rfl,j3⟩,rfl⟩ J X (fun m4 U w X J=>?_) rfl
  obtain⟨j7,G⟩:=aB G
  have hr:=X.rd 0 rfl
  refine gH 1 aU4 qM J X hr.1 hr.2.1 j7 rfl (fun j8 j9 k0 U w X J=>?_) rfl
  refine x_m J rfl fun U J=>wpList_nil (i2 _ _ ?_)
  refine i1 _ _ (aC ?_)
  refine x_l G J rfl fun m5 _ U J G=>x_m J rfl fun U J=>wpList_nil ?_
  replace X:=X.drop 1 |>.pk 1 |>.pk 1 |>.pk 3 |>.pk 3 |>.pk 4
  cases G
  exact⟨_,h7 _ rfl,b9,c0,j0,j1,j2,j8,j9,k0,(Sub.trans (Sub.trans b4 b8) c2),j4,J.sub _ rfl,X⟩
 cases G
 exact wp_exit (h4 a8 a9 b1 b2 b3 d1 d2 d3 d4 e4 (e3 _ rfl) i j a2 a3 a4 a5 a6 a7 b4 U w (J.sub _ rfl) X)
theorem aBp {a0 a1 g0 l0 A1 n1 c1 y} (G:nD a0 a1=some y) (X:SH r (obj67 l0 g0 a0::zone Z wz::L) w) (ha1:Imm Z wz k47 A1 n1 c1 a1) (hG1:Imm Z wz (kI .u32) (some ⟨1,0,none⟩) 16 16 cW) (hG2:Gb Z wz 2 .u64 cO) :
  Ret Tryz.prog 29 #[.pointer (some ⟨g0,0,none⟩),.slice A1 n1 c1] w fun v w'=>∃ (Z':Nat→Prop) (wz':World) (B0:Option Addr) (m0:Nat) (d0:Nat),v=.tuple #[(.slice B0 m0 d0),(.int .i64 y.2.1),(.int .i64 y.2.2.1),(.int .i64 y.2.2.2.1)]∧Sub Z wz Z' wz'∧SH r (own k47 47 B0 m0 d0 y.1::obj67 l0 g0 y.2.2.2.2::zone Z' wz'::L) w':=by
 refine aUw Tryz.func29 rfl Tryz.ntmps29 [(0,(pP g0)),(1,.slice A1 n1 c1)] rfl (by simp) ?_
 intro U J Qf hQD
 unfold nD at G
 replace X:SH r (obj67 l0 g0 a0::zone Z wz::jR ([]:List Nat)::L) w:=(SH.marks0 X).sk 2
 obtain⟨z4,z5,z6,X⟩:=bG ((mJ X).pk 1)
 refine ws fun z7 r9=>mY J X (fun j U w X J=>?_) rfl
 refine gZ (cs:=[.slice none 0 0]) bCq J X (fun b U w X J=>?_) rfl
 refine gZ (cs:=[.int .i64 0]) zr3 J X (fun f U w X J=>?_) rfl
 refine gZ (cs:=[.int .i64 0]) zr3 J X (fun g U w X J=>?_) rfl
 refine gZ (cs:=[.int .i64 0]) bCu J X (fun h U w X J=>?_) rfl
 refine wn (r9 _ _ ?_)
 refine wp_seq_k fun z8 s0=>ws fun z9 s2=>aH aMq (X.cell 4 rfl 0 _ rfl) J (fun U J=>?_) rfl
 refine xk 1 J rfl fun U J=>aL aI3 J (fun U J=>?_) rfl
 refine aH yU (X.cell 7 rfl 0 _ rfl) J (fun U J=>?_) rfl
 replace X:=SH.optS (aN (x:=a0.f0) (X.pk 6 |>.pk 6))
 obtain⟨A0,s3,G⟩:=bnd G
 refine x_c aXy J rfl (zH s3 X :) fun v U w hR J=>?_
 obtain⟨rfl,X⟩:=hR
 obtain⟨u,s4,G⟩:=bnd G
 rw [s4] at X
 obtain⟨f6,f7,f8,X⟩:=bG (SH.unoptP X)
 refine x_m J rfl fun U J=>wn (s2 _ _ ?_)
 refine nz 2 J rfl fun U J=>bA J G rfl (fun s5 G=>?_) fun s5 G=>?_
 ·refine ws fun A2 s6=>xk 1 J rfl fun U J=>dH 5 aDa J X rfl (fun  U w X J=>?_) rfl
  refine dH 5 sz3 J X rfl (fun  U w X J=>?_) rfl
  refine dH 5 sz3 J X rfl (fun  U w X J=>?_) rfl
  refine dH 5 aOs J X rfl (fun  U w X J=>?_) rfl
  refine wn (s6 _ _ ?_)
  refine wp_ret (hQD _ _ _ _ _ _ J (X.pk 9) fun U w J X=>?_)
  have hS0:=X
  replace X:=(aN (x:=u) ((SH.nil_own (d:=k47) (e:=47) X).pk 6 |>.pk 6)).pk 7
  replace X:=(iN (x:=(⟨u,a0.f1,a0.f2,a0.f3⟩:S67)) X).drop 2 |>.drop 2 |>.drop 2 |>.drop 2 |>.drop 2 |>.pk 2 |>.pk 1 |>.pk 2
  cases G
  refine aJ4 Tryz.results29 eG uu3 uu3 aOq (hS0.cell 3 rfl 0 _ rfl) (hS0.cell 2 rfl 0 _ rfl) (hS0.cell 1 rfl 0 _ rfl) (hS0.cell 0 rfl 0 _ rfl) J rfl rfl rfl rfl ?_ rfl
  exact⟨Z,wz,none,0,0,rfl,(Sub.refl _ _),X⟩
 refine wp_skip (s0 _ _ ?_)
 refine ws fun A3 s7=>gZ (cs:=[.slice none 0 0]) aW3 J X (fun l U w X J=>?_) rfl
 refine wn (s7 _ _ ?_)
 refine wp_seq_k fun A4 s8=>ws fun A5 s9=>xk 1 J rfl fun U J=>aH aMq (X.cell 7 rfl 0 _ rfl) J (fun U J=>?_) rfl
 refine xk 1 J rfl fun U J=>aL aQs J (fun U J=>?_) rfl
 refine aL aLl J (fun U J=>?_) rfl
 refine aH uu3 (X.cell 8 rfl 1 _ rfl) J (fun U J=>?_) rfl
 obtain⟨t0,G⟩:=aB G
 refine x_c bAh J rfl (yB (L:=blk l 37 [.slice none 0 0]::blk l0 58 [.slice f6 f7 f8,.int .i64 u.f1,.int .i64 u.f2,.bool u.f3,.int .i64 u.f4]::own2 kp64 (kI .u8) 5 (fun x:S64=>x.f1) 64 f6 f7 f8 u.f0::blk h 28 [.int .i64 0]::blk g 3 [.int .i64 0]::blk f 3 [.int .i64 0]::blk b 22 [.slice none 0 0]::blk j 65 [.pointer (some ⟨g0,0,none⟩)]::blk g0 67 [.pointer (some ⟨l0,0,none⟩),.int .i64 a0.f1.f0,.int .i64 a0.f1.f1,.int .i64 a0.f2,.int .i64 a0.f3]::zone Z wz::jR ([]:List Nat)::L) (A:=A1) (n:=n1) (c:=c1) (k:=a0.f1.f0) t0 X) fun v U w hR J=>?_
 obtain⟨c8,c9,rfl,X⟩:=hR
 refine wn (s9 _ _ ?_)
 refine aA fun A6 t1=>?_
 replace X:=(SH.nil_own (d:=kS) (e:=9) X).pk 12 |>.pk 1 |>.pk 6 |>.pk 4 |>.pk 4 |>.pk 5 |>.pk 7 |>.pk 8 |>.pk 9 |>.pk 10 |>.pk 11 |>.pk 11 |>.pk 12
 obtain⟨A7,o2,G⟩:=bnd G
 obtain⟨f9,o2⟩:=aB o2
 refine aDm (d:=k47) (q:=a0.f1.f0.toNat) chunk_hands47 bAg ⟨by have:=f9.2; omega,by have:=f9.2; omega⟩ o2 (J.sub [(0,(pP g0)),(2,(pP j)),(4,(pP b)),(5,(pP f)),(6,(pP g)),(7,(pP h)),(9,(pP l)),(35,.func (.func 52) #[] #[.pointer (some ⟨c8,0,none⟩),(pP c9)])] rfl) (Imm.pieces ha1) f9.1 (fun (s:((List S64)×Int×Int×Bool×Int×Int×Int×Int×Int×(List (List UInt8)))) E=>∃ (T:Nat→Prop) (W:World) (C:Option Addr) (D:Nat) (F:Nat) (H:Option Addr) (I:Nat) (M:Nat),Sub Z wz T W∧Imm T W k47 A1 n1 c1 a1∧E=[blk g0 67 [.pointer (some ⟨l0,0,none⟩),.int .i64 s.2.2.2.2.2.1,.int .i64 s.2.2.2.2.2.2.1,.int .i64 s.2.2.2.2.2.2.2.1,.int .i64 s.2.2.2.2.2.2.2.2.1],blk l0 58 [.slice C D F,.int .i64 s.2.1,.int .i64 s.2.2.1,.bool s.2.2.2.1,.int .i64 s.2.2.2.2.1],blk j 65 [.pointer (some ⟨g0,0,none⟩)],blk b 22 [.slice none 0 0],blk f 3 [.int .i64 0],blk g 3 [.int .i64 0],blk h 28 [.int .i64 0],blk l 37 [.slice H I M],blk c8 22 [.slice A1 n1 c1],blk c9 3 [.int .i64 a0.f1.f0],own2 kp64 (kI .u8) 5 (fun x:S64=>x.f1) 64 C D F s.1,own kS 9 H I M s.2.2.2.2.2.2.2.2.2,zone T W]) (fun (s:((List S64)×Int×Int×Bool×Int×Int×Int×Int×Int×Int)) E=>∃ (g1:Nat→Prop) (g2:World) (g3:Option Addr) (g4:Nat) (g5:Nat),Sub Z wz g1 g2∧E=[blk g0 67 [.pointer (some ⟨l0,0,none⟩),.int .i64 s.2.2.2.2.2.1,.int .i64 s.2.2.2.2.2.2.1,.int .i64 s.2.2.2.2.2.2.2.1,.int .i64 s.2.2.2.2.2.2.2.2.1],blk l0 58 [.slice g3 g4 g5,.int .i64 s.2.1,.int .i64 s.2.2.1,.bool s.2.2.2.1,.int .i64 s.2.2.2.2.1],blk b 22 [.slice none 0 0],blk f 3 [.int .i64 0],blk g 3 [.int .i64 0],blk h 28 [.int .i64 s.2.2.2.2.2.2.2.2.2],own2 kp64 (kI .u8) 5 (fun x:S64=>x.f1) 64 g3 g4 g5 s.1,zone g1 g2]) [blk g0 67 [.pointer (some ⟨l0,0,none⟩),.int .i64 a0.f1.f0,.int .i64 a0.f1.f1,.int .i64 a0.f2,.int .i64 a0.f3],blk l0 58 [.slice f6 f7 f8,.int .i64 u.f1,.int .i64 u.f2,.bool u.f3,.int .i64 u.f4],blk j 65 [.pointer (some ⟨g0,0,none⟩)],blk b 22 [.slice none 0 0],blk f 3 [.int .i64 0],blk g 3 [.int .i64 0],blk h 28 [.int .i64 0],blk l 37 [.slice none 0 0],blk c8 22 [.slice A1 n1 c1],blk c9 3 [.int .i64 a0.f1.f0],own2 kp64 (kI .u8) 5 (fun x:S64=>x.f1) 64 f6 f7 f8 u.f0,own kS 9 none 0 0 [],zone Z wz] ⟨Z,wz,f6,f7,f8,none,0,0,(Sub.refl _ _),ha1,rfl⟩ X ?_ ?_ ?_ ?_ rfl
 ·rintro s E ⟨T,W,C,D,F,H,I,M,a7,j6,rfl⟩
  exact⟨8,9,_,_,_,rfl,rfl,by have:=f9.2; omega⟩
 ·intro lp k g6 t2 E B U w hlt G hX J X Qr hLO hK hKr
  obtain⟨a8,a9,b1,b2,b3,d1,d2,d3,d4,z⟩:=g6
  try dsimp only at hX
  obtain⟨T,W,C,D,F,H,I,M,a7,j6,rfl⟩:=hX
  replace X:SH r (blk g0 67 [.pointer (some ⟨l0,0,none⟩),.int .i64 d1,.int .i64 d2,.int .i64 d3,.int .i64 d4]::blk l0 58 [.slice C D F,.int .i64 a9,.int .i64 b1,.bool b2,.int .i64 b3]::blk j 65 [.pointer (some ⟨g0,0,none⟩)]::blk b 22 [.slice none 0 0]::blk f 3 [.int .i64 0]::blk g 3 [.int .i64 0]::blk h 28 [.int .i64 0]::blk l 37 [.slice H I M]::blk c8 22 [.slice A1 n1 c1]::blk c9 3 [.int .i64 a0.f1.f0]::own2 kp64 (kI .u8) 5 (fun x:S64=>x.f1) 64 C D F a8::own kS 9 H I M z::zone T W::B) w:=X
  obtain⟨t3,q7,hpv,q8⟩:=Imm.pieceq j6 (by have:=f9.2; omega) hlt
  replace J:=hpv▸J
  clear hpv
  generalize List.take (a0.f1.f0.toNat) (List.drop (k * a0.f1.f0.toNat) a1)=t4 at G q8
  replace G:fT a8 a9 b1 b2 b3 d1 d2 d3 d4 z t4=some t2:=G
  unfold fT at G
  refine aBn fun A8 t5=>wpIn_seq_k fun A9 t6=>aT6 [0,0,2,7,15,31,31,63,255] [2,3] rfl J X (by kernel_rfl) (by kernel_rfl) (by kernel_rfl) (by kernel_rfl) (by kernel_rfl) hLO fun w X=>⟨[(0,(pP g0)),(1,.slice t3 q7 q7)],?_⟩
  refine dF [0,1] [2] (by kernel_rfl) ⟨pt [(2,_)] rfl (fun U J=>cM aMq (X.cell 2 rfl 0 _ rfl) J rfl rfl rfl),pm rfl,trivial⟩ ⟨et [(39,_)] rfl (fun U J K hK=>?_),trivial⟩
  obtain⟨B1,t7,G⟩:=bnd G
  refine nQ bCe J (aIk t7 X (q8.rdl 12 rfl) :) (fun v w hR=>?_) rfl
  obtain⟨t8,t9,u0,rfl,X⟩:=hR
  refine hK _ [] _ rfl (dF [0] [3] (by kernel_rfl) ⟨pt [(2,_)] rfl (fun U J=>cM aMq (X.cell 3 rfl 0 _ rfl) J rfl rfl rfl),trivial⟩ ⟨et [(38,_),(40,_)] rfl (fun U J K hK=>?_),trivial⟩)
  replace X:=X.pk 13 |>.pk 1
  obtain⟨B2,B3,X,q9,g7⟩:=SH.freeze (n:=t9) (c:=u0) (A:=t8) X
  have u1:=Imm.sub j6 g7
  replace X:=X.pk 11 |>.pk 3
  replace X:=(aN (x:=(⟨a8,a9,b1,b2,b3⟩:S58)) X).pk 2
  replace X:=(iN (x:=(⟨(⟨a8,a9,b1,b2,b3⟩:S58),(⟨d1,d2⟩:S26),d3,d4⟩:S67)) X).pk 1 |>.pk 1
  obtain⟨a,u2,G⟩:=bnd G
  refine nQ bAv J (vD u2 X q9 (Imm.sub hG1 (Sub.trans a7 g7)) (Gb.sub hG2 (Sub.trans a7 g7)) :) (fun v w hR=>?_) rfl
  obtain⟨j7,j8,rfl,j9,X⟩:=hR
  have B4:=Imm.sub q9 j9
  have u3:=Imm.sub u1 j9
  obtain⟨d5,d6,d7,X⟩:=bG ((mJ X).pk 1)
  refine hK _ [(4,.tuple #[(str a.1),(.int .i64 a.2.1)]),(5,str a.1),(6,.int .i64 a.2.1),(7,str a.1),(8,.int .i64 a.2.1)] _ rfl (gK [4,5,6,7,8] (by kernel_rfl) ⟨pm rfl,pt [(37,.tuple #[(str a.1),(.int .i64 a.2.1)])] rfl (fun U J=>tV rfl (J.ev rfl) rfl),pt [(37,.tuple #[(str a.1),(.int .i64 a.2.1)])] rfl (fun U J=>tV rfl (J.ev rfl) rfl),pm rfl,pm rfl,trivial⟩ ⟨by kernel_rfl,by kernel_rfl⟩ [(0,_),(2,_),(4,_),(5,_),(6,_),(7,_),(9,_),(11,_),(12,_),(35,_)] rfl (fun U J=>?_))
  refine t6 _ _ (wpIn_seq_k fun B5 u4=>?_)
  refine wpIn_seq_k fun B6 u5=>xM hLO (by kernel_rfl) (nk 2 J rfl fun U J=>?_)
  refine u5 _ _ (aU0 J rfl (fun o3=>?_) fun o3=>?_)
  ·replace G:=ift o3 G
   refine wpIn_seq_k fun B7 u6=>xM hLO (by kernel_rfl) (x_m J rfl fun U J=>?_)
   refine dH 5 aDa J X rfl (fun  U w X J=>?_) rfl
   refine dH 6 sz3 J X rfl (fun  U w X J=>?_) rfl
   refine dH 7 sz3 J X rfl (fun  U w X J=>?_) rfl
   refine dH 8 aOs J X rfl (fun  U w X J=>?_) rfl
   refine wn (u6 _ _ ?_)
   refine wpIn_ret ?_
   replace X:=X.drop 8 |>.drop 8 |>.drop 8 |>.drop 8 |>.drop 8 |>.pk 7 |>.pk 6 |>.pk 2 |>.pk 3 |>.pk 4 |>.pk 5 |>.pk 6 |>.pk 7
   obtain rfl:=Option.some.inj G
   exact hKr _ _ _ [blk g0 67 [.pointer (some ⟨l0,0,none⟩),.int .i64 a.2.2.f1.f0,.int .i64 a.2.2.f1.f1,.int .i64 a.2.2.f2,.int .i64 a.2.2.f3],blk l0 58 [.slice d5 d6 d7,.int .i64 a.2.2.f0.f1,.int .i64 a.2.2.f0.f2,.bool a.2.2.f0.f3,.int .i64 a.2.2.f0.f4],blk b 22 [.slice none 0 0],blk f 3 [.int .i64 0],blk g 3 [.int .i64 0],blk h 28 [.int .i64 a.2.1],own2 kp64 (kI .u8) 5 (fun x:S64=>x.f1) 64 d5 d6 d7 a.2.2.f0.f0,zone j7 j8] rfl ⟨j7,j8,d5,d6,d7,(Sub.trans (Sub.trans a7 g7) j9),rfl⟩ X
  replace G:=xK o3 G
  refine wpIn_skip (u4 _ _ ?_)
  refine xM hLO (by kernel_rfl) (aH lG (X.cell 9 rfl 0 _ rfl) J (fun U J=>?_) rfl)
  refine x_m J rfl fun U J=>iM (d:=kS) (e:=9) (ps:=#[(0,str a.1)]) (cells:=[str a.1]) (xs:=[a.1]) (fun w=>by kernel_rfl) rfl ⟨[str a.1],_,rfl,rfl,rfl⟩ J X (fun B8 U w X J=>?_) rfl
  obtain⟨u7,G⟩:=aB G
  have hr:=X.rd 0 rfl
  refine gH 13 aJx lG J X hr.1 hr.2.1 u7 rfl (fun o4 o5 o6 U w X J=>?_) rfl
  refine dH 11 aTx J X rfl (fun  U w X J=>?_) rfl
  refine wpList_nil ?_
  replace X:=X.drop 2 |>.pk 5 |>.pk 2 |>.pk 4 |>.pk 12 |>.pk 12 |>.pk 5 |>.pk 12 |>.pk 12 |>.pk 12 |>.pk 12 |>.pk 12 |>.pk 11 |>.pk 12
  obtain rfl:=Option.some.inj G
  exact t5 _ _ (hK _ _ _ [blk g0 67 [.pointer (some ⟨l0,0,none⟩),.int .i64 a.2.2.f1.f0,.int .i64 a.2.2.f1.f1,.int .i64 a.2.2.f2,.int .i64 a.2.2.f3],blk l0 58 [.slice d5 d6 d7,.int .i64 a.2.2.f0.f1,.int .i64 a.2.2.f0.f2,.bool a.2.2.f0.f3,.int .i64 a.2.2.f0.f4],blk j 65 [.pointer (some ⟨g0,0,none⟩)],blk b 22 [.slice none 0 0],blk f 3 [.int .i64 0],blk g 3 [.int .i64 0],blk h 28 [.int .i64 0],blk l 37 [.slice o4 o5 o6],blk c8 22 [.slice A1 n1 c1],blk c9 3 [.int .i64 a0.f1.f0],own2 kp64 (kI .u8) 5 (fun x:S64=>x.f1) 64 d5 d6 d7 a.2.2.f0.f0,own kS 9 o4 o5 o6 (z++[a.1]),zone j7 j8] rfl ⟨j7,j8,d5,d6,d7,o4,o5,o6,(Sub.trans (Sub.trans a7 g7) j9),u3,rfl⟩ X)
 ·intro r0 g6 E U w ht hX J X
  subst ht
  obtain⟨a8,a9,b1,b2,b3,d1,d2,d3,d4,z⟩:=g6
  try dsimp only at hX
  obtain⟨T,W,C,D,F,H,I,M,a7,j6,rfl⟩:=hX
  replace X:SH r (blk g0 67 [.pointer (some ⟨l0,0,none⟩),.int .i64 d1,.int .i64 d2,.int .i64 d3,.int .i64 d4]::blk l0 58 [.slice C D F,.int .i64 a9,.int .i64 b1,.bool b2,.int .i64 b3]::blk j 65 [.pointer (some ⟨g0,0,none⟩)]::blk b 22 [.slice none 0 0]::blk f 3 [.int .i64 0]::blk g 3 [.int .i64 0]::blk h 28 [.int .i64 0]::blk l 37 [.slice H I M]::blk c8 22 [.slice A1 n1 c1]::blk c9 3 [.int .i64 a0.f1.f0]::own2 kp64 (kI .u8) 5 (fun x:S64=>x.f1) 64 C D F a8::own kS 9 H I M z::zone T W::jR (r0::([]:List Nat))::L) w:=X
  replace G:lS a8 a9 b1 b2 b3 d1 d2 d3 d4 z=some y:=G
  unfold lS at G
  refine t1 _ _ (s8 _ _ ?_)
  refine ws fun B9 u9=>aH lG (X.cell 7 rfl 0 _ rfl) J (fun U J=>?_) rfl
  refine aU lG (X.rd 11 rfl).2.1 J (fun U J=>?_) rfl
  refine nk 2 J rfl fun U J=>u9 _ _ (wp_seq_k fun C0 v0=>?_)
  refine aA fun r1 v1=>?_
  have hb1:∀b4 b5 b6 b7 b8 g8 g9 h0 h1 o7 o8,mN z b4 b5 b6 b7 b8 g8 g9 h0 h1 o7 o8=some y→∀k0 k1 o9 p0 p1 p2 h2 k2 k3 (k4:Sub Z wz k0 k1) U w,FR 94 (List.map aA6 o9) U [(0,(pP g0)),(2,(pP j)),(4,(pP b)),(5,(pP f)),(6,(pP g)),(7,(pP h)),(9,(pP l)),(13,.int .i64 (z.length:Int)),(14,.int .i64 o8)]→SH r (blk g0 67 [.pointer (some ⟨l0,0,none⟩),.int .i64 g8,.int .i64 g9,.int .i64 h0,.int .i64 h1]::blk l0 58 [.slice p0 p1 p2,.int .i64 b5,.int .i64 b6,.bool b7,.int .i64 b8]::blk j 65 [.pointer (some ⟨g0,0,none⟩)]::blk b 22 [.slice none 0 0]::blk f 3 [.int .i64 0]::blk g 3 [.int .i64 0]::blk h 28 [.int .i64 0]::blk l 37 [.slice h2 k2 k3]::own2 kp64 (kI .u8) 5 (fun x:S64=>x.f1) 64 p0 p1 p2 b4::own kS 9 h2 k2 k3 o7::zone k0 k1::jR o9::L) w→r1 U w:=by
   intro b4 b5 b6 b7 b8 g8 g9 h0 h1 o7 o8 G k0 k1 o9 p0 p1 p2 h2 k2 k3 k4 U w J X
   unfold mN at G
   refine v1 _ _ (v0 _ _ ?_)
   refine wp_seq_k fun C1 v2=>nz 2 J rfl fun U J=>bA J G rfl (fun v3 G=>?_) fun v3 G=>?_
   ·refine ws fun C2 v4=>dH 3 aDa J X rfl (fun  U w X J=>?_) rfl
    refine dH 4 sz3 J X rfl (fun  U w X J=>?_) rfl
    refine dH 5 sz3 J X rfl (fun  U w X J=>?_) rfl
    refine dH 6 aOs J X rfl (fun  U w X J=>?_) rfl
    refine wn (v4 _ _ ?_)
    refine wp_ret (hQD _ _ _ _ _ _ J (X.pk 11) fun U w J X=>?_)
    have hS0:=X
    replace X:=(SH.nil_own (d:=k47) (e:=47) X).pk 9 |>.pk 7
    replace X:=(aN (x:=(⟨b4,b5,b6,b7,b8⟩:S58)) X).pk 6
    replace X:=(iN (x:=(⟨(⟨b4,b5,b6,b7,b8⟩:S58),(⟨g8,g9⟩:S26),h0,h1⟩:S67)) X).drop 2 |>.drop 2 |>.drop 2 |>.drop 2 |>.drop 2 |>.drop 2 |>.drop 2 |>.pk 2 |>.pk 1 |>.pk 2
    cases G
    refine aJ4 Tryz.results29 eG uu3 uu3 aOq (hS0.cell 3 rfl 0 _ rfl) (hS0.cell 2 rfl 0 _ rfl) (hS0.cell 1 rfl 0 _ rfl) (hS0.cell 0 rfl 0 _ rfl) J rfl rfl rfl rfl ?_ rfl
    exact⟨k0,k1,none,0,0,rfl,k4,X⟩
   refine wp_skip (v2 _ _ ?_)
   refine wp_seq_k fun C3 v5=>cP [0,0,2,6,15,31,63,63,127,511] [4] rfl J X (by kernel_rfl) (by kernel_rfl) (by kernel_rfl) (by kernel_rfl) fun w X=>?_
   obtain⟨v6,r2,G⟩:=bnd G
   obtain⟨cs,hV,v7⟩:=el (X.rd 9 rfl) r2
   obtain rfl:=hV
   refine⟨[(0,(pP g0)),(1,.slice h2 k2 k3),(2,.pointer (some (ea h2 ((0:Int).toNat * 1)))),(3,str v6)],?_⟩
   refine dF [0,1,2,3] [4] (by kernel_rfl) ⟨pt [(2,_)] rfl (fun U J=>cM aMq (X.cell 2 rfl 0 _ rfl) J rfl rfl rfl),pt [(9,_)] rfl (fun U J=>cM lG (X.cell 7 rfl 0 _ rfl) J rfl rfl rfl),pt [(84,_)] rfl (fun U J=>fH lG sz9 (X.rd 9 rfl) r2 J rfl rfl rfl),pt [(85,_)] rfl (fun U J=>cM uu9 (v7 0 _ rfl) J rfl rfl rfl),trivial⟩ ⟨et [(83,_),(86,_)] rfl (fun U J K hK=>?_),trivial⟩
   replace X:=X.pk 8 |>.pk 2
   replace X:=(aN (x:=(⟨b4,b5,b6,b7,b8⟩:S58)) X).pk 1
   replace X:=(iN (x:=(⟨(⟨b4,b5,b6,b7,b8⟩:S58),(⟨g8,g9⟩:S26),h0,h1⟩:S67)) X).pk 8 |>.pk 1
   obtain⟨b9,v8,G⟩:=bnd G
   refine nQ bA1 J (vC v8 X (Imm.sub hG1 k4) :) (fun v w hR=>?_) rfl
   obtain⟨v9,w0,d8,d9,e0,rfl,w1,X⟩:=hR
   obtain⟨C4,C5,C6,X⟩:=bG ((mJ (X.pk 1)).pk 1)
   refine hK _ [(5,.tuple #[(.slice d8 d9 e0),(.int .i64 b9.2.1)]),(6,.slice d8 d9 e0),(7,.int .i64 b9.2.1),(8,.slice d8 d9 e0),(9,.int .i64 b9.2.1)] _ rfl (gK [5,6,7,8,9] (by kernel_rfl) ⟨pm rfl,pt [(82,.tuple #[(.slice d8 d9 e0),(.int .i64 b9.2.1)])] rfl (fun U J=>tV rfl (J.ev rfl) rfl),pt [(82,.tuple #[(.slice d8 d9 e0),(.int .i64 b9.2.1)])] rfl (fun U J=>tV rfl (J.ev rfl) rfl),pm rfl,pm rfl,trivial⟩ ⟨by kernel_rfl,by kernel_rfl⟩ [(0,_),(4,_),(5,_),(6,_),(7,_),(13,_),(14,_),(19,_),(20,_)] rfl (fun U J=>?_))
   refine v5 _ _ (ws fun C7 w2=>?_)
   refine xk 4 J rfl fun U J=>dH 6 aDa J X rfl (fun  U w X J=>?_) rfl
   refine dH 7 sz3 J X rfl (fun  U w X J=>?_) rfl
   refine dH 8 sz3 J X rfl (fun  U w X J=>?_) rfl
   refine dH 9 aOs J X rfl (fun  U w X J=>?_) rfl
   refine wn (w2 _ _ ?_)
   refine wp_ret (hQD _ _ _ _ _ _ J (X.pk 12) fun U w J X=>?_)
   have hS0:=X
   replace X:=(iN (x:=b9.2.2) ((aN (x:=b9.2.2.f0) (X.pk 5 |>.pk 5)).pk 5)).drop 1 |>.drop 1 |>.drop 1 |>.drop 1 |>.drop 3 |>.drop 3 |>.drop 3 |>.pk 2 |>.pk 1 |>.pk 2
   cases G
   refine aJ4 Tryz.results29 eG uu3 uu3 aOq (hS0.cell 3 rfl 0 _ rfl) (hS0.cell 2 rfl 0 _ rfl) (hS0.cell 1 rfl 0 _ rfl) (hS0.cell 0 rfl 0 _ rfl) J rfl rfl rfl rfl ?_ rfl
   exact⟨v9,w0,d8,d9,e0,rfl,(Sub.trans k4 w1),X⟩
  obtain⟨w3,w4,G⟩:=bnd G
  have w5:=G
  have w6:∀h3 h4 h5 h6 h7 h8 h9 i0 i1 i2 i3,(.inl (h3,h4,h5,h6,h7,h8,h9,i0,i1,i2,i3))=w3→∀k5 k6 k7 k8 k9 l1 l2 l3 l4 (r3:Sub Z wz k5 k6) U w,FR 94 (List.map aA6 k7) U [(0,(pP g0)),(2,(pP j)),(4,(pP b)),(5,(pP f)),(6,(pP g)),(7,(pP h)),(9,(pP l)),(13,.int .i64 (z.length:Int)),(14,.int .i64 i3)]→SH r (blk g0 67 [.pointer (some ⟨l0,0,none⟩),.int .i64 h8,.int .i64 h9,.int .i64 i0,.int .i64 i1]::blk l0 58 [.slice k8 k9 l1,.int .i64 h4,.int .i64 h5,.bool h6,.int .i64 h7]::blk j 65 [.pointer (some ⟨g0,0,none⟩)]::blk b 22 [.slice none 0 0]::blk f 3 [.int .i64 0]::blk g 3 [.int .i64 0]::blk h 28 [.int .i64 0]::blk l 37 [.slice l2 l3 l4]::own2 kp64 (kI .u8) 5 (fun x:S64=>x.f1) 64 k8 k9 l1 h3::own kS 9 l2 l3 l4 i2::zone k5 k6::jR k7::L) w→r1 U w:=by
   intro h3 h4 h5 h6 h7 h8 h9 i0 i1 i2 i3 ht k5 k6 k7 k8 k9 l1 l2 l3 l4 r3 U w J X
   subst ht
   replace G:lC z h3 h4 h5 h6 h7 h8 h9 i0 i1 i2 i3=some y:=G
   unfold lC at G
   exact hb1 h3 h4 h5 h6 h7 h8 h9 i0 i1 i2 i3 G k5 k6 k7 k8 k9 l1 l2 l3 l4 r3 U w (J.sub _ rfl) X
  replace X:=X.drop 8 |>.drop 8
  refine aD w4 (fun s U w=>∃l5 l6 a6 Y a2 a3 m o p,Sub Z wz l5 l6∧FR 94 (List.map aA6 a6) U [(0,(pP g0)),(2,(pP j)),(4,(pP b)),(5,(pP f)),(6,(pP g)),(7,(pP h)),(9,(pP l)),(13,.int .i64 (z.length:Int)),(14,.int .i64 s.2.2.2.2.2.2.2.2.2.2)]∧SH r (blk g0 67 [.pointer (some ⟨l0,0,none⟩),.int .i64 s.2.2.2.2.2.1,.int .i64 s.2.2.2.2.2.2.1,.int .i64 s.2.2.2.2.2.2.2.1,.int .i64 s.2.2.2.2.2.2.2.2.1]::blk l0 58 [.slice Y a2 a3,.int .i64 s.2.1,.int .i64 s.2.2.1,.bool s.2.2.2.1,.int .i64 s.2.2.2.2.1]::blk j 65 [.pointer (some ⟨g0,0,none⟩)]::blk b 22 [.slice none 0 0]::blk f 3 [.int .i64 0]::blk g 3 [.int .i64 0]::blk h 28 [.int .i64 0]::blk l 37 [.slice m o p]::own2 kp64 (kI .u8) 5 (fun x:S64=>x.f1) 64 Y a2 a3 s.1::own kS 9 m o p s.2.2.2.2.2.2.2.2.2.1::zone l5 l6::jR a6::L) w) ⟨T,W,(r0::([]:List Nat)),C,D,F,H,I,M,a7,J.sub _ rfl,X⟩ ?_
  intro C8 w7 p3 G w8 r4 U w hLab
  obtain⟨l7,l8,l9,m1,m2,m3,t,m4,m5,m6,m7⟩:=w7
  replace G:cL l7 l8 l9 m1 m2 m3 t m4 m5 m6 m7=some p3:=G
  unfold cL at G
  try dsimp only at hLab
  obtain⟨l5,l6,a6,Y,a2,a3,m,o,p,r5,J,X⟩:=hLab
  refine wp_seq_k fun C9 w9=>ws fun D0 x0=>aH lG (X.cell 7 rfl 0 _ rfl) J (fun U J=>?_) rfl
  refine aU lG (X.rd 9 rfl).2.1 J (fun U J=>?_) rfl
  refine nk 1 J rfl fun U J=>x0 _ _ (bA J G rfl (fun x1 G=>?_) fun x1 G=>?_)
  ·refine wp_skip (w9 _ _ ?_)
   refine wp_seq_k fun D1 x2=>aA fun D2 x3=>ws fun D3 x4=>gZ (cs:=[.slice none 0 0]) aW3 J X (fun c0 U w X J=>?_) rfl
   refine wn (x4 _ _ ?_)
   refine wp_seq_k fun D4 x5=>wp_seq_k fun D5 x6=>cP [0,0,2,6,14,30,63] [6] rfl J X (by kernel_rfl) (by kernel_rfl) (by kernel_rfl) (by kernel_rfl) fun w X=>⟨[(0,.slice m o p),(1,(pP g0)),(2,(pP g0)),(3,.pointer (some ⟨g0,1,none⟩)),(4,.pointer (some ⟨g0,2,none⟩)),(5,.int .i64 t)],?_⟩
   refine dF [0,1,2,3,4,5] [6] (by kernel_rfl) ⟨pt [(9,_)] rfl (fun U J=>cM lG (X.cell 8 rfl 0 _ rfl) J rfl rfl rfl),pt [(2,_)] rfl (fun U J=>cM aMq (X.cell 3 rfl 0 _ rfl) J rfl rfl rfl),pt [(59,_)] rfl (fun U J=>dC rfl (J.ev rfl)),pt [(60,_)] rfl (fun U J=>eR aQs J rfl rfl),pt [(61,_)] rfl (fun U J=>eR aL0 J rfl rfl),pt [(62,_)] rfl (fun U J=>cM uu3 (X.cell 1 rfl 2 _ rfl) J rfl rfl rfl),trivial⟩ ⟨et [(58,_),(63,_)] rfl (fun U J K hK=>?_),trivial⟩
   obtain⟨x7,G⟩:=aB G
   replace X:=X.pk 11 |>.pk 11
   obtain⟨p4,p5,X,r6,x8⟩:=SH.freeze (n:=o) (c:=p) (A:=m) X
   refine nQ bBy J (aEe (L:=zone p4 p5::blk c0 37 [.slice none 0 0]::blk g0 67 [.pointer (some ⟨l0,0,none⟩),.int .i64 m3,.int .i64 t,.int .i64 m4,.int .i64 m5]::blk l0 58 [.slice Y a2 a3,.int .i64 l8,.int .i64 l9,.bool m1,.int .i64 m2]::blk j 65 [.pointer (some ⟨g0,0,none⟩)]::blk b 22 [.slice none 0 0]::blk f 3 [.int .i64 0]::blk g 3 [.int .i64 0]::blk h 28 [.int .i64 0]::blk l 37 [.slice m o p]::own2 kp64 (kI .u8) 5 (fun x:S64=>x.f1) 64 Y a2 a3 l7::jR a6::L) (A:=m) (n:=o) (c:=p) (k:=t) x7 X) (fun v w hR=>?_) rfl
   obtain⟨e1,e2,rfl,X⟩:=hR
   refine hK _ [] _ rfl (gK [] (by kernel_rfl) trivial ⟨by kernel_rfl,by kernel_rfl⟩ [(0,_),(2,_),(4,_),(5,_),(6,_),(7,_),(9,_),(13,_),(14,_),(15,_),(64,_)] rfl (fun U J=>?_))
   refine x6 _ _ (aA fun D6 x9=>?_)
   replace X:=(SH.nil_own (d:=kS) (e:=9) X).pk 3 |>.pk 1 |>.pk 13 |>.pk 4 |>.pk 4 |>.pk 5 |>.pk 13 |>.pk 13 |>.pk 13 |>.pk 13 |>.pk 13 |>.pk 13 |>.pk 13 |>.pk 13
   obtain⟨D7,p6,G⟩:=bnd G
   obtain⟨i4,p6⟩:=aB p6
   refine aDm (d:=kS) (q:=t.toNat) aI6 bB7 ⟨by have:=i4.2; omega,by have:=i4.2; omega⟩ p6 (J.sub [(0,(pP g0)),(2,(pP j)),(4,(pP b)),(5,(pP f)),(6,(pP g)),(7,(pP h)),(9,(pP l)),(13,.int .i64 (z.length:Int)),(14,.int .i64 m7),(15,(pP c0)),(64,.func (.func 59) #[] #[.pointer (some ⟨e1,0,none⟩),(pP e2)])] rfl) (Imm.pieces r6) i4.1 (fun (s:((List S64)×Int×Int×Bool×Int×Int×Int×Int×Int×(List (List UInt8)))) E=>∃ (a4:Nat→Prop) (a5:World) (N:Option Addr) (O:Nat) (P:Nat) (Q:Option Addr) (R:Nat) (S:Nat),Sub Z wz a4 a5∧Imm a4 a5 kS m o p m6∧E=[blk g0 67 [.pointer (some ⟨l0,0,none⟩),.int .i64 s.2.2.2.2.2.1,.int .i64 s.2.2.2.2.2.2.1,.int .i64 s.2.2.2.2.2.2.2.1,.int .i64 s.2.2.2.2.2.2.2.2.1],blk l0 58 [.slice N O P,.int .i64 s.2.1,.int .i64 s.2.2.1,.bool s.2.2.2.1,.int .i64 s.2.2.2.2.1],blk j 65 [.pointer (some ⟨g0,0,none⟩)],blk b 22 [.slice none 0 0],blk f 3 [.int .i64 0],blk g 3 [.int .i64 0],blk h 28 [.int .i64 0],blk l 37 [.slice m o p],blk c0 37 [.slice Q R S],blk e1 37 [.slice m o p],blk e2 3 [.int .i64 t],own2 kp64 (kI .u8) 5 (fun x:S64=>x.f1) 64 N O P s.1,own kS 9 Q R S s.2.2.2.2.2.2.2.2.2,zone a4 a5]) (fun (s:((List S64)×Int×Int×Bool×Int×Int×Int×Int×Int×Int)) E=>∃ (i5:Nat→Prop) (i6:World) (i7:Option Addr) (i8:Nat) (i9:Nat),Sub Z wz i5 i6∧E=[blk g0 67 [.pointer (some ⟨l0,0,none⟩),.int .i64 s.2.2.2.2.2.1,.int .i64 s.2.2.2.2.2.2.1,.int .i64 s.2.2.2.2.2.2.2.1,.int .i64 s.2.2.2.2.2.2.2.2.1],blk l0 58 [.slice i7 i8 i9,.int .i64 s.2.1,.int .i64 s.2.2.1,.bool s.2.2.2.1,.int .i64 s.2.2.2.2.1],blk b 22 [.slice none 0 0],blk f 3 [.int .i64 0],blk g 3 [.int .i64 0],blk h 28 [.int .i64 s.2.2.2.2.2.2.2.2.2],own2 kp64 (kI .u8) 5 (fun x:S64=>x.f1) 64 i7 i8 i9 s.1,zone i5 i6]) [blk g0 67 [.pointer (some ⟨l0,0,none⟩),.int .i64 m3,.int .i64 t,.int .i64 m4,.int .i64 m5],blk l0 58 [.slice Y a2 a3,.int .i64 l8,.int .i64 l9,.bool m1,.int .i64 m2],blk j 65 [.pointer (some ⟨g0,0,none⟩)],blk b 22 [.slice none 0 0],blk f 3 [.int .i64 0],blk g 3 [.int .i64 0],blk h 28 [.int .i64 0],blk l 37 [.slice m o p],blk c0 37 [.slice none 0 0],blk e1 37 [.slice m o p],blk e2 3 [.int .i64 t],own2 kp64 (kI .u8) 5 (fun x:S64=>x.f1) 64 Y a2 a3 l7,own kS 9 none 0 0 [],zone p4 p5] ⟨p4,p5,Y,a2,a3,none,0,0,(Sub.trans r5 x8),r6,rfl⟩ X ?_ ?_ ?_ ?_ rfl
   ·rintro s E ⟨a4,a5,N,O,P,Q,R,S,c2,m8,rfl⟩
    exact⟨9,10,_,_,_,rfl,rfl,by have:=i4.2; omega⟩
   ·intro lp k j0 y0 E B U w hlt G hX J X Qr hLO hK hKr
    obtain⟨c3,c4,c5,c6,c7,e3,e4,e5,e6,e7⟩:=j0
    try dsimp only at hX
    obtain⟨a4,a5,N,O,P,Q,R,S,c2,m8,rfl⟩:=hX
    replace X:SH r (blk g0 67 [.pointer (some ⟨l0,0,none⟩),.int .i64 e3,.int .i64 e4,.int .i64 e5,.int .i64 e6]::blk l0 58 [.slice N O P,.int .i64 c4,.int .i64 c5,.bool c6,.int .i64 c7]::blk j 65 [.pointer (some ⟨g0,0,none⟩)]::blk b 22 [.slice none 0 0]::blk f 3 [.int .i64 0]::blk g 3 [.int .i64 0]::blk h 28 [.int .i64 0]::blk l 37 [.slice m o p]::blk c0 37 [.slice Q R S]::blk e1 37 [.slice m o p]::blk e2 3 [.int .i64 t]::own2 kp64 (kI .u8) 5 (fun x:S64=>x.f1) 64 N O P c3::own kS 9 Q R S e7::zone a4 a5::B) w:=X
    obtain⟨D8,D9,hpv,p7⟩:=Imm.pieceq m8 (by have:=i4.2; omega) hlt
    replace J:=hpv▸J
    clear hpv
    generalize List.take (t.toNat) (List.drop (k * t.toNat) m6)=y1 at G p7
    replace G:fB c3 c4 c5 c6 c7 e3 e4 e5 e6 e7 y1=some y0:=G
    unfold fB at G
    refine aBn fun E0 y2=>wpIn_seq_k fun E1 y3=>xM hLO (by kernel_rfl) (aH aMq (X.cell 2 rfl 0 _ rfl) J (fun U J=>?_) rfl)
    refine x_m J rfl fun U J=>?_
    replace X:=X.pk 11 |>.pk 2
    replace X:=(aN (x:=(⟨c3,c4,c5,c6,c7⟩:S58)) X).pk 1
    replace X:=(iN (x:=(⟨(⟨c3,c4,c5,c6,c7⟩:S58),(⟨e3,e4⟩:S26),e5,e6⟩:S67)) X).pk 11 |>.pk 1
    obtain⟨i,y4,G⟩:=bnd G
    refine x_c bCb J rfl (aBt y4 X p7 (Imm.sub hG1 c2) (Gb.sub hG2 c2) :) fun v U w hR J=>?_
    obtain⟨m9,n0,rfl,n2,X⟩:=hR
    have E2:=Imm.sub p7 n2
    have y5:=Imm.sub m8 n2
    obtain⟨e8,e9,f5,X⟩:=bG ((mJ X).pk 1)
    refine nk 5 J rfl fun U J=>y3 _ _ (wpIn_seq_k fun E3 y6=>?_)
    refine wpIn_seq_k fun E4 y7=>xM hLO (by kernel_rfl) (nk 2 J rfl fun U J=>?_)
    refine y7 _ _ (aU0 J rfl (fun p8=>?_) fun p8=>?_)
    ·replace G:=ift p8 G
     refine wpIn_seq_k fun E5 y8=>xM hLO (by kernel_rfl) (x_m J rfl fun U J=>?_)
     refine dH 5 aDa J X rfl (fun  U w X J=>?_) rfl
     refine dH 6 sz3 J X rfl (fun  U w X J=>?_) rfl
     refine dH 7 sz3 J X rfl (fun  U w X J=>?_) rfl
     refine dH 8 aOs J X rfl (fun  U w X J=>?_) rfl
     refine wn (y8 _ _ ?_)
     refine wpIn_ret ?_
     replace X:=X.drop 8 |>.drop 8 |>.drop 8 |>.drop 8 |>.drop 8 |>.drop 8 |>.pk 7 |>.pk 6 |>.pk 2 |>.pk 3 |>.pk 4 |>.pk 5 |>.pk 6 |>.pk 7
     obtain rfl:=Option.some.inj G
     exact hKr _ _ _ [blk g0 67 [.pointer (some ⟨l0,0,none⟩),.int .i64 i.2.2.f1.f0,.int .i64 i.2.2.f1.f1,.int .i64 i.2.2.f2,.int .i64 i.2.2.f3],blk l0 58 [.slice e8 e9 f5,.int .i64 i.2.2.f0.f1,.int .i64 i.2.2.f0.f2,.bool i.2.2.f0.f3,.int .i64 i.2.2.f0.f4],blk b 22 [.slice none 0 0],blk f 3 [.int .i64 0],blk g 3 [.int .i64 0],blk h 28 [.int .i64 i.2.1],own2 kp64 (kI .u8) 5 (fun x:S64=>x.f1) 64 e8 e9 f5 i.2.2.f0.f0,zone m9 n0] rfl ⟨m9,n0,e8,e9,f5,(Sub.trans c2 n2),rfl⟩ X
    replace G:=xK p8 G
    refine wpIn_skip (y6 _ _ ?_)
    refine xM hLO (by kernel_rfl) (aH lG (X.cell 10 rfl 0 _ rfl) J (fun U J=>?_) rfl)
    refine x_m J rfl fun U J=>iM (d:=kS) (e:=9) (ps:=#[(0,str i.1)]) (cells:=[str i.1]) (xs:=[i.1]) (fun w=>by kernel_rfl) rfl ⟨[str i.1],_,rfl,rfl,rfl⟩ J X (fun E6 U w X J=>?_) rfl
    obtain⟨y9,G⟩:=aB G
    have hr:=X.rd 0 rfl
    refine gH 14 aJx lG J X hr.1 hr.2.1 y9 rfl (fun p9 q0 q1 U w X J=>?_) rfl
    refine dH 12 aTx J X rfl (fun  U w X J=>?_) rfl
    refine wpList_nil ?_
    replace X:=X.drop 2 |>.pk 5 |>.pk 2 |>.pk 4 |>.pk 13 |>.pk 13 |>.pk 5 |>.pk 13 |>.pk 13 |>.pk 13 |>.pk 13 |>.pk 13 |>.pk 13 |>.pk 12 |>.pk 13
    obtain rfl:=Option.some.inj G
    exact y2 _ _ (hK _ _ _ [blk g0 67 [.pointer (some ⟨l0,0,none⟩),.int .i64 i.2.2.f1.f0,.int .i64 i.2.2.f1.f1,.int .i64 i.2.2.f2,.int .i64 i.2.2.f3],blk l0 58 [.slice e8 e9 f5,.int .i64 i.2.2.f0.f1,.int .i64 i.2.2.f0.f2,.bool i.2.2.f0.f3,.int .i64 i.2.2.f0.f4],blk j 65 [.pointer (some ⟨g0,0,none⟩)],blk b 22 [.slice none 0 0],blk f 3 [.int .i64 0],blk g 3 [.int .i64 0],blk h 28 [.int .i64 0],blk l 37 [.slice m o p],blk c0 37 [.slice p9 q0 q1],blk e1 37 [.slice m o p],blk e2 3 [.int .i64 t],own2 kp64 (kI .u8) 5 (fun x:S64=>x.f1) 64 e8 e9 f5 i.2.2.f0.f0,own kS 9 p9 q0 q1 (e7++[i.1]),zone m9 n0] rfl ⟨m9,n0,e8,e9,f5,p9,q0,q1,(Sub.trans c2 n2),y5,rfl⟩ X)
   ·intro r7 j0 E U w ht hX J X
    subst ht
    obtain⟨c3,c4,c5,c6,c7,e3,e4,e5,e6,e7⟩:=j0
    try dsimp only at hX
    obtain⟨a4,a5,N,O,P,Q,R,S,c2,m8,rfl⟩:=hX
    replace X:SH r (blk g0 67 [.pointer (some ⟨l0,0,none⟩),.int .i64 e3,.int .i64 e4,.int .i64 e5,.int .i64 e6]::blk l0 58 [.slice N O P,.int .i64 c4,.int .i64 c5,.bool c6,.int .i64 c7]::blk j 65 [.pointer (some ⟨g0,0,none⟩)]::blk b 22 [.slice none 0 0]::blk f 3 [.int .i64 0]::blk g 3 [.int .i64 0]::blk h 28 [.int .i64 0]::blk l 37 [.slice m o p]::blk c0 37 [.slice Q R S]::blk e1 37 [.slice m o p]::blk e2 3 [.int .i64 t]::own2 kp64 (kI .u8) 5 (fun x:S64=>x.f1) 64 N O P c3::own kS 9 Q R S e7::zone a4 a5::jR (r7::a6)::L) w:=X
    replace G:jC m7 c3 c4 c5 c6 c7 e3 e4 e5 e6 e7=some p3:=G
    unfold jC at G
    refine x9 _ _ (x5 _ _ ?_)
    refine aC (aH lG (X.cell 8 rfl 0 _ rfl) J (fun U J=>?_) rfl)
    refine dH 7 aTx J X rfl (fun  U w X J=>?_) rfl
    refine wpList_nil (x3 _ _ ?_)
    refine x2 _ _ (aC ?_)
    refine x_m J rfl fun U J=>x_l G J rfl fun E7 _ U J G=>x_m J rfl fun U J=>wpList_nil ?_
    replace X:=X.drop 8 |>.drop 8 |>.drop 8 |>.pk 10 |>.pk 10 |>.pk 10 |>.pk 3 |>.pk 10 |>.pk 10 |>.pk 10 |>.pk 10 |>.pk 10 |>.pk 10 |>.pk 10
    cases G
    exact⟨_,w8 _ rfl,a4,a5,(r7::a6),N,O,P,Q,R,S,c2,J.sub _ rfl,X⟩
   ·intro z0 j0 E U w ht hX J X
    subst ht
    obtain⟨j1,j2,j3,j4,j5,n3,n4,n5,n6,q2⟩:=j0
    try dsimp only at hX
    obtain⟨i5,i6,i7,i8,i9,z1,rfl⟩:=hX
    replace X:SH r (blk g0 67 [.pointer (some ⟨l0,0,none⟩),.int .i64 n3,.int .i64 n4,.int .i64 n5,.int .i64 n6]::blk l0 58 [.slice i7 i8 i9,.int .i64 j2,.int .i64 j3,.bool j4,.int .i64 j5]::blk b 22 [.slice none 0 0]::blk f 3 [.int .i64 0]::blk g 3 [.int .i64 0]::blk h 28 [.int .i64 q2]::own2 kp64 (kI .u8) 5 (fun x:S64=>x.f1) 64 i7 i8 i9 j1::zone i5 i6::jR (z0::a6)::L) w:=X
    replace G:jE j1 j2 j3 j4 j5 n3 n4 n5 n6 q2=some p3:=G
    unfold jE at G
    refine hQD _ _ _ _ _ _ J (X.pk 8) fun U w J X=>?_
    have hS0:=X
    replace X:=(SH.nil_own (d:=k47) (e:=47) X).pk 7 |>.pk 3
    replace X:=(aN (x:=(⟨j1,j2,j3,j4,j5⟩:S58)) X).pk 2
    replace X:=(iN (x:=(⟨(⟨j1,j2,j3,j4,j5⟩:S58),(⟨n3,n4⟩:S26),n5,n6⟩:S67)) X).drop 2 |>.drop 2 |>.drop 2 |>.drop 2 |>.pk 2 |>.pk 1 |>.pk 2
    cases G
    have ht:=r4 _ rfl
    subst ht
    replace G:=w5
    replace G:some ([],0,0,q2,(⟨(⟨j1,j2,j3,j4,j5⟩:S58),(⟨n3,n4⟩:S26),n5,n6⟩:S67))=some y:=G
    cases G
    refine aJ4 Tryz.results29 eG uu3 uu3 aOq (hS0.cell 2 rfl 0 _ rfl) (hS0.cell 3 rfl 0 _ rfl) (hS0.cell 4 rfl 0 _ rfl) (hS0.cell 5 rfl 0 _ rfl) J rfl rfl rfl rfl ?_ rfl
    exact⟨i5,i6,none,0,0,rfl,z1,X⟩
  cases G
  exact wp_exit (w6 l7 l8 l9 m1 m2 m3 t m4 m5 m6 m7 (r4 _ rfl) l5 l6 a6 Y a2 a3 m o p r5 U w (J.sub _ rfl) X)
 ·intro z2 g6 E U w ht hX J X
  subst ht
  obtain⟨n7,n8,n9,o0,o1,q3,q4,q5,q6,r8⟩:=g6
  try dsimp only at hX
  obtain⟨g1,g2,g3,g4,g5,z3,rfl⟩:=hX
  replace X:SH r (blk g0 67 [.pointer (some ⟨l0,0,none⟩),.int .i64 q3,.int .i64 q4,.int .i64 q5,.int .i64 q6]::blk l0 58 [.slice g3 g4 g5,.int .i64 n8,.int .i64 n9,.bool o0,.int .i64 o1]::blk b 22 [.slice none 0 0]::blk f 3 [.int .i64 0]::blk g 3 [.int .i64 0]::blk h 28 [.int .i64 r8]::own2 kp64 (kI .u8) 5 (fun x:S64=>x.f1) 64 g3 g4 g5 n7::zone g1 g2::jR (z2::([]:List Nat))::L) w:=X
  replace G:lO n7 n8 n9 o0 o1 q3 q4 q5 q6 r8=some y:=G
  unfold lO at G
  refine hQD _ _ _ _ _ _ J (X.pk 8) fun U w J X=>?_
  have hS0:=X
  replace X:=(SH.nil_own (d:=k47) (e:=47) X).pk 7 |>.pk 3
  replace X:=(aN (x:=(⟨n7,n8,n9,o0,o1⟩:S58)) X).pk 2
  replace X:=(iN (x:=(⟨(⟨n7,n8,n9,o0,o1⟩:S58),(⟨q3,q4⟩:S26),q5,q6⟩:S67)) X).drop 2 |>.drop 2 |>.drop 2 |>.drop 2 |>.pk 2 |>.pk 1 |>.pk 2
  cases G
  refine aJ4 Tryz.results29 eG uu3 uu3 aOq (hS0.cell 2 rfl 0 _ rfl) (hS0.cell 3 rfl 0 _ rfl) (hS0.cell 4 rfl 0 _ rfl) (hS0.cell 5 rfl 0 _ rfl) J rfl rfl rfl rfl ?_ rfl
  exact⟨g1,g2,none,0,0,rfl,z3,X⟩
theorem aBc {a0 a1 a2 a3 p0 A1 n1 c1 y} (G:nM a0 a1 a2 a3=some y) (X:SH r (sS (obj58) p0 a0::zone Z wz::L) w) (ha1:Imm Z wz k47 A1 n1 c1 a1) (hG1:Imm Z wz (kI .u32) (some ⟨1,0,none⟩) 16 16 cW) (hG2:Gb Z wz 2 .u64 cO) :
  Ret Tryz.prog 13 #[.pointer p0,.slice A1 n1 c1,.int .i64 a2,.agg #[.int .i64 a3.f0,.int .i64 a3.f1]] w fun v w'=>∃ (Z':Nat→Prop) (wz':World) (B0:Option Addr) (m0:Nat) (d0:Nat),v=.tuple #[(.slice B0 m0 d0),(.int .i64 y.2.1),(.int .i64 y.2.2.1),(.int .i64 y.2.2.2.1)]∧Sub Z wz Z' wz'∧SH r (own k47 47 B0 m0 d0 y.1::sS (obj58) p0 y.2.2.2.2::zone Z' wz'::L) w':=by
 refine enter Tryz.func13 rfl Tryz.ntmps13 [(0,_),(1,_),(2,_),(3,_)] rfl (by simp) ?_
 intro U J Qf hQ hQn
 unfold nM at G
 cases a0 with
 | none =>
  have hU:=SH.unoptN X
  clear X
  obtain⟨rfl,X⟩:=hU
  refine ws fun f7 R=>mY J X (fun f8 U w X J=>?_) rfl
  refine nk 4 J rfl fun U J=>R _ _ (wp_seq_k fun f9 g0=>?_)
  refine aA fun g1 g2=>ws fun g3 S=>xk 1 J rfl fun U J=>x_v (v:=.bool true) J (uJ (p:=none) yU rfl (J.ev rfl) (J.ev rfl)) rfl fun U J=>x_m J rfl fun U J=>wn (S _ _ ?_)
  refine c_t (b:=true) rfl J ?_ rfl
  refine nz 4 J rfl fun U J=>?_
  replace X:=(SH.optN (obj58) (SH.nil_own (d:=k47) (e:=47) X)).drop 2 |>.pk 2 |>.pk 1 |>.pk 2
  cases G
  refine wp_ret (hQ _ _ ?_)
  exact lv4 Tryz.results13 J rfl rfl rfl rfl ⟨Z,wz,none,0,0,rfl,(Sub.refl _ _),X⟩
 | some a =>
  have hU:=SH.unoptS X
  clear X
  obtain⟨c,rfl,X⟩:=hU
  obtain⟨k,l,m,X⟩:=bG X
  refine ws fun g4 T=>mY J X (fun f U w X J=>?_) rfl
  refine nk 4 J rfl fun U J=>T _ _ (wp_seq_k fun g5 W=>?_)
  refine aA fun g6 Y=>ws fun g7 a4=>xk 1 J rfl fun U J=>x_v (v:=.bool false) J (uJ (p:=some ⟨c,0,none⟩) yU rfl (J.ev rfl) (J.ev rfl)) rfl fun U J=>x_m J rfl fun U J=>wn (a4 _ _ ?_)
  refine c_f (b:=false) rfl J ?_ rfl
  refine wp_seq_k fun a5 a6=>?_
  have hj1:∀C,kW a1 a2 a3 a C=some y→∀U w,FR 68 [] U [(0,(pP c)),(1,.slice A1 n1 c1),(2,.int .i64 a2),(7,(pP f)),(22,.bool C)]→SH r (blk c 58 [.slice k l m,.int .i64 a.f1,.int .i64 a.f2,.bool a.f3,.int .i64 a.f4]::blk f 26 [.int .i64 a3.f0,.int .i64 a3.f1]::own2 kp64 (kI .u8) 5 (fun x:S64=>x.f1) 64 k l m a.f0::zone Z wz::L) w→a5 U w:=by
   intro C G U w J X
   unfold kW at G
   refine a6 _ _ (bA J G rfl (fun a7 G=>?_) fun a7 G=>?_)
   ·refine nz 4 J rfl fun U J=>?_
    replace X:=(SH.optS (aN (x:=a) ((SH.nil_own (d:=k47) (e:=47) X).pk 3 |>.pk 2))).drop 2 |>.pk 2 |>.pk 1 |>.pk 2
    cases G
    refine wp_ret (hQ _ _ ?_)
    exact lv4 Tryz.results13 J rfl rfl rfl rfl ⟨Z,wz,none,0,0,rfl,(Sub.refl _ _),X⟩
   refine wp_skip (Y _ _ ?_)
   refine W _ _ (wp_seq_k fun g8 a8=>?_)
   refine ws fun g9 a9=>xk 1 J rfl fun U J=>aU eG (X.imm 3 ha1 rfl).2.1 J (fun U J=>?_) rfl
   refine x_m J rfl fun U J=>wn (a9 _ _ ?_)
   refine aA fun O b1=>?_
   have hb1:sD a1 a2 a3 a=some y→∀U w,FR 68 [] U [(0,(pP c)),(1,.slice A1 n1 c1),(2,.int .i64 a2),(7,(pP f))]→SH r (blk c 58 [.slice k l m,.int .i64 a.f1,.int .i64 a.f2,.bool a.f3,.int .i64 a.f4]::blk f 26 [.int .i64 a3.f0,.int .i64 a3.f1]::own2 kp64 (kI .u8) 5 (fun x:S64=>x.f1) 64 k l m a.f0::zone Z wz::L) w→O U w:=by
    intro G U w J X
    unfold sD at G
    refine b1 _ _ (a8 _ _ ?_)
    refine ws fun h0 b2=>xk 1 J rfl fun U J=>lH (ad:=⟨f,0,none⟩) (cs:=[.int .i64 a3.f0,.int .i64 a3.f1]) aZq aX5 (fun j u h=>by rw [nF,Nat.zero_add]; exact X.cell 1 rfl j u h) J (fun U J=>?_) rfl
    refine x_m J rfl fun U J=>x_v (v:=.agg #[.pointer (some ⟨c,0,none⟩),.int .i64 a3.f0,.int .i64 a3.f1,.int .i64 a2,.int .i64 0]) J (qB (ps:=#[(0,(pP c)),(1,.agg #[.int .i64 a3.f0,.int .i64 a3.f1]),(2,.int .i64 a2)]) rfl (sB J rfl) (fun w=>by kernel_rfl)) rfl fun U J=>mY J X (fun h1 U w X J=>?_) rfl
    refine x_m J rfl fun U J=>wn (b2 _ _ ?_)
    refine ws fun h2 b3=>xk 2 J rfl fun U J=>?_
    replace X:=(aN (x:=a) (X.pk 3 |>.pk 2)).pk 1
    replace X:=(iN (x:=(⟨a,a3,a2,0⟩:S67)) X).pk 2 |>.pk 1
    obtain⟨i,b4,G⟩:=bnd G
    refine x_c bCp J rfl (aBp b4 X ha1 hG1 hG2 :) fun v U w hR J=>?_
    obtain⟨D,E,b5,b6,b7,rfl,F,X⟩:=hR
    have h3:=Imm.sub ha1 F
    obtain⟨b8,b9,c0,X⟩:=bG ((mJ (X.pk 1)).pk 1)
    refine nk 9 J rfl fun U J=>b3 _ _ (wp_seq_k fun h4 c2=>?_)
    refine nz 2 J rfl fun U J=>bA J G rfl (fun c3 G=>?_) fun c3 G=>?_
    ·refine wp_seq_k fun c4 c5=>?_
     have hj2:∀o t z A B,sT i o t z A B=some y→∀H I K U w,FR 68 [] U [(0,(pP c)),(18,.int .i64 i.2.2.2.1)]→SH r (blk c 58 [.slice H I K,.int .i64 t,.int .i64 z,.bool A,.int .i64 B]::own2 kp64 (kI .u8) 5 (fun x:S64=>x.f1) 64 H I K o::zone D E::L) w→c4 U w:=by
      intro o t z A B G H I K U w J X
      unfold sT at G
      refine c5 _ _ (nz 5 J rfl fun U J=>?_)
      replace X:=(SH.nil_own (d:=k47) (e:=47) X).pk 2 |>.pk 2
      replace X:=(SH.optS (aN (x:=(⟨o,t,z,A,B⟩:S58)) X)).pk 2 |>.pk 1 |>.pk 2
      cases G
      refine wp_ret (hQ _ _ ?_)
      exact lv4 Tryz.results13 J rfl rfl rfl rfl ⟨D,E,none,0,0,rfl,F,X⟩
     refine nz 2 J rfl fun U J=>bA J G rfl (fun c6 G=>?_) fun c6 G=>?_
     ·refine aC (x_m J rfl fun U J=>?_)
      replace X:=SH.optS (aN (x:=i.2.2.2.2.f0) (X.pk 1 |>.pk 1))
      obtain⟨h5,c7,G⟩:=bnd G
      refine x_c aXy J rfl (zH c7 X :) fun v U w hR J=>?_
      obtain⟨rfl,X⟩:=hR
      obtain⟨n,c8,G⟩:=bnd G
      rw [c8] at X
      obtain⟨c9,d1,d2,X⟩:=bG (SH.unoptP X)
      refine wpList_nil ?_
      replace X:=X.drop 2 |>.drop 2 |>.drop 3
      exact hj2 n.f0 n.f1 n.f2 n.f3 n.f4 G c9 d1 d2 U w (J.sub _ rfl) X
     replace X:=X.drop 2 |>.drop 2 |>.drop 3
     exact wp_skip (hj2 i.2.2.2.2.f0.f0 i.2.2.2.2.f0.f1 i.2.2.2.2.f0.f2 i.2.2.2.2.f0.f3 i.2.2.2.2.f0.f4 G b8 b9 c0 U w (J.sub _ rfl) X)
    refine wp_skip (c2 _ _ ?_)
    refine nz 7 J rfl fun U J=>?_
    replace X:=(SH.optS (aN (x:=i.2.2.2.2.f0) (X.pk 1 |>.pk 1))).drop 1 |>.drop 3 |>.pk 2 |>.pk 1 |>.pk 2
    cases G
    refine wp_ret (hQ _ _ ?_)
    exact lv4 Tryz.results13 J rfl rfl rfl rfl ⟨D,E,b5,b6,b7,rfl,F,X⟩
   obtain⟨d3,d4,G⟩:=bnd G
   have d5:=G
   have d6:(.inl ())=d3→∀U w,FR 68 [] U [(0,(pP c)),(1,.slice A1 n1 c1),(2,.int .i64 a2),(7,(pP f))]→SH r (blk c 58 [.slice k l m,.int .i64 a.f1,.int .i64 a.f2,.bool a.f3,.int .i64 a.f4]::blk f 26 [.int .i64 a3.f0,.int .i64 a3.f1]::own2 kp64 (kI .u8) 5 (fun x:S64=>x.f1) 64 k l m a.f0::zone Z wz::L) w→O U w:=by
    intro ht U w J X
    subst ht
    replace G:pZ a1 a2 a3 a=some y:=G
    unfold pZ at G
    exact hb1 G U w (J.sub _ rfl) X
   refine aD d4 (fun s U w=>FR 68 [] U [(0,(pP c)),(1,.slice A1 n1 c1),(2,.int .i64 a2),(7,(pP f)),(34,.slice A1 n1 c1),(35,.int .i64 (a1.length:Int)),(36,.int .i64 s)]∧SH r (blk c 58 [.slice k l m,.int .i64 a.f1,.int .i64 a.f2,.bool a.f3,.int .i64 a.f4]::blk f 26 [.int .i64 a3.f0,.int .i64 a3.f1]::own2 kp64 (kI .u8) 5 (fun x:S64=>x.f1) 64 k l m a.f0::zone Z wz::L) w) ⟨J.sub _ rfl,X⟩ ?_
   intro h6 d7 d8 G d9 P U w hLab
   obtain⟨e0,rfl⟩:∃ q,q=d7:=⟨_,rfl⟩
   replace G:iA a1 a2 a e0=some d8:=G
   unfold iA at G
   try dsimp only at hLab
   obtain⟨J,X⟩:=hLab
   refine nz 1 J rfl fun U J=>wp_seq_k fun h7 e1=>bA J G rfl (fun e2 G=>?_) fun e2 G=>?_
   ·refine wp_skip (e1 _ _ ?_)
    refine wp_seq_k fun h8 e3=>aA fun h9 e4=>ws fun i0 e5=>?_
    obtain⟨g,Q,G⟩:=bnd G
    refine fG eG cH (X.imm 3 ha1 rfl) Q J (fun U J=>?_) rfl
    obtain⟨cs,hV,e6⟩:=el (X.imm 3 ha1 rfl) Q
    obtain rfl:=hV
    refine lH (cs:=[.int .u64 g.f0,.int .i64 g.f1,.int .i64 g.f2,str g.f3,.float .f64 g.f4]) lL cH (fun j u h=>by rw [eU]; exact e6 _ _ h) J (fun U J=>?_) rfl
    refine gZ (cs:=[.int .u64 0,.int .i64 0,.int .i64 0,str [],.float .f64 0]) aJ0 J X (fun e7 U w X J=>?_) rfl
    refine dH 0 cH J X rfl (fun  U w X J=>?_) rfl
    refine wn (e5 _ _ ?_)
    refine ws fun i1 e8=>lH (ad:=⟨e7,0,none⟩) (cs:=[.int .u64 g.f0,.int .i64 g.f1,.int .i64 g.f2,str g.f3,.float .f64 g.f4]) lL cH (fun j u h=>by rw [nF,Nat.zero_add]; exact X.cell 0 rfl j u h) J (fun U J=>?_) rfl
    refine x_m J rfl fun U J=>?_
    obtain⟨i2,e9,G⟩:=bnd G
    refine x_c aZf J rfl (aCt e9 X :) fun v U w hR J=>?_
    obtain⟨rfl,X⟩:=hR
    refine nk 1 J rfl fun U J=>e8 _ _ (bA J G rfl (fun f5 G=>?_) fun f5 G=>?_)
    ·refine nz 4 J rfl fun U J=>?_
     replace X:=(SH.optS (aN (x:=a) ((SH.nil_own (d:=k47) (e:=47) X).pk 4 |>.pk 3))).drop 2 |>.drop 2 |>.pk 2 |>.pk 1 |>.pk 2
     cases G
     refine wp_ret ?_
     have ht:=P _ rfl
     subst ht
     replace G:=d5
     replace G:some ([],0,0,3,some a)=some y:=G
     cases G
     refine hQ _ _ (lv4 Tryz.results13 J rfl rfl rfl rfl ?_)
     exact⟨Z,wz,none,0,0,rfl,(Sub.refl _ _),X⟩
    refine wp_skip (e4 _ _ ?_)
    refine e3 _ _ (aC ?_)
    refine x_l G J rfl fun i3 _ U J G=>x_m J rfl fun U J=>wpList_nil ?_
    replace X:=X.drop 0
    cases G
    exact⟨_,d9 _ rfl,J.sub _ rfl,X⟩
   cases G
   exact wp_exit (d6 (P _ rfl) U w (J.sub _ rfl) X)
  refine aC (lH (ad:=⟨f,0,none⟩) (cs:=[.int .i64 a3.f0,.int .i64 a3.f1]) aZq aX5 (fun j u h=>by rw [nF,Nat.zero_add]; exact X.cell 0 rfl j u h) J (fun U J=>?_) rfl)
  obtain⟨i4,f6,G⟩:=bnd G
  refine x_c bCl J rfl (aBu f6 X :) fun v U w hR J=>?_
  obtain⟨rfl,X⟩:=hR
  refine xk 2 J rfl fun U J=>bcG G (fun M G=>?_) fun M G=>?_
  ·refine xg 4 M J rfl rfl fun U J=>xO 2 rfl J rfl fun U J=>oA rfl J (fun U J=>?_) rfl
   refine x_m J rfl fun U J=>wpList_nil ?_
   replace X:=X.pk 3 |>.pk 3 |>.pk 2 |>.pk 3
   exact hj1 true G U w (J.sub _ rfl) X
  refine xg 4 M J rfl rfl fun U J=>bcG G (fun N G=>?_) fun N G=>?_
  ·refine ng 4 N J rfl rfl fun U J=>?_
   replace X:=X.pk 3 |>.pk 3 |>.pk 2 |>.pk 3
   exact hj1 true G U w (J.sub _ rfl) X
  refine ng 4 N J rfl rfl fun U J=>?_
  replace X:=X.pk 3 |>.pk 3 |>.pk 2 |>.pk 3
  exact hj1 (decide (8<a2)) G U w (J.sub _ rfl) X
end
noncomputable section
set_option linter.unusedSimpArgs false
def sW (b:((Option S58)×Int)) (c:(List S47)):Option (Bool) :=
  (nM b.1 c 1 (⟨2,2⟩:S26)).bind fun a=>(if (a.2.2.2.1==0)=true then (if ((a.1.length:Int)==10)=true then ((at_ a.1 0).bind fun d=>(if (d.f2==(-9))=true then (if (a.2.1==5)=true then (some (a.2.2.1==3)) else (some false)) else (some false))) else (some false)) else (some false))
def qD (a:((Option S58)×Int)) (b:(List S47)):Option (Bool) :=
  sW a b
def gV (b:(List S47)) (a:Int):Option (((List S47)×Int)⊕(((List S47)))) :=
  if (decide (a<10))=true then (chk (b.length+[(⟨0,0,IntKind.i64.wrap (0 - a),[],0⟩:S47)].length≤140737488355328 / 48) (ltt (IntKind.i64.wrap (a+1)) fun c=>(some (.inl (b++[(⟨0,0,IntKind.i64.wrap (0 - a),[],0⟩:S47)],c))))) else (some (.inr (b)))
def uP:Option (Bool) :=
  (wC 65536).bind fun a=>((loop (fun s=>gV s.1 s.2) ([],0)).bind fun t=>qD a t)
def xQ (a:(List S47)):Option ((List S47)) :=
  some a
def uY (a:(List S47)):Option ((List S47)) :=
  xQ a
def oJ (a:Int) (b:(List S47)):Option (((List S47)×Int)⊕(((List S47)))) :=
  ltt (IntKind.i64.wrap (a+1)) fun c=>(some (.inl (b,c)))
def mM (a0:(List S47)) (a:(List S47)) (b:Int) (d:Bool):Option (((List S47)×Int)⊕(((List S47)))) :=
  if d=true then ((at_ a0 b).bind fun c=>((aCk c 8).bind fun e=>(if e=true then (chk (a.length+[c].length≤140737488355328 / 48) (oJ b (a++[c]))) else (oJ b a)))) else (some (.inr (a)))
def kD (a0:(List S47)) (b:(List S47)) (a:Int):Option (((List S47)×Int)⊕(((List S47)))) :=
  if (decide (a<(a0.length:Int)))=true then (mM a0 b a (decide (a<200))) else (mM a0 b a false)
def xB (a0:(List S47)):Option ((List S47)) :=
  (loop (fun s=>kD a0 s.1 s.2) ([],0)).bind fun t=>uY t
end
section
variable {r:World} {L:List HP} {w:World} {Z:Nat→Prop} {wz:World}
theorem aGr {y} (G:uP=some y) (X:SH r (zone Z wz::L) w) (hG1:Imm Z wz (kI .u32) (some ⟨1,0,none⟩) 16 16 cW) (hG2:Gb Z wz 2 .u64 cO) :
  Ret Tryz.prog 9 #[] w fun v w'=>∃ (Z':Nat→Prop) (wz':World),v=.bool y∧Sub Z wz Z' wz'∧SH r (zone Z' wz'::L) w':=by
 refine enter Tryz.func9 rfl Tryz.ntmps9 [] rfl (by simp) ?_
 intro U J Qf hQ hQn
 unfold uP at G
 refine nz 1 J rfl fun U J=>ws fun b6 P=>?_
 obtain⟨i,Q,G⟩:=bnd G
 refine x_c aZv J rfl (aDp Q X :) fun v U w hR J=>?_
 obtain⟨g,rfl,X⟩:=hR
 refine nk 5 J rfl fun U J=>P _ _ (nz 1 J rfl fun U J=>?_)
 refine wp_seq_k fun b7 R=>nz 1 J rfl fun U J=>aA fun K S=>?_
 have hb1:∀F,sW i F=some y→∀q t u U w,FR 54 [] U [(1,.pointer g),(3,.slice q t u)]→SH r (sS (obj58) g i.1::own k47 47 q t u F::zone Z wz::L) w→K U w:=by
  intro F G q t u U w J X
  unfold sW at G
  refine S _ _ (R _ _ ?_)
  refine ws fun b8 T=>xk 2 J rfl fun U J=>x_v (v:=.agg #[.int .i64 2,.int .i64 2]) J (qB (ps:=#[(0,.int .i64 2),(1,.int .i64 2)]) rfl (sB J rfl) (fun w=>by kernel_rfl)) rfl fun U J=>?_
  replace X:=X.pk 2 |>.pk 2
  obtain⟨b9,c0,X,M,a⟩:=SH.freeze (n:=t) (c:=u) (A:=q) X
  replace X:=X.pk 1
  obtain⟨c1,W,G⟩:=bnd G
  refine x_c aZ3 J rfl (aBc W X M (Imm.sub hG1 a) (Gb.sub hG2 a) :) fun v U w hR J=>?_
  obtain⟨j,k,c2,c3,c4,rfl,h,X⟩:=hR
  have c5:=Imm.sub M h
  refine nk 9 J rfl fun U J=>T _ _ (ws fun c6 l=>?_)
  refine xk 3 J rfl fun U J=>bcG G (fun o G=>?_) fun o G=>?_
  ·refine xg 1 o J rfl rfl fun U J=>aJ o J ?_ rfl
   refine aU eG (X.rd 0 rfl).2.1 J (fun U J=>?_) rfl
   refine xg 3 o J rfl rfl fun U J=>bcG G (fun b G=>?_) fun b G=>?_
   ·refine xg 1 b J rfl rfl fun U J=>aJ b J ?_ rfl
    obtain⟨c7,N,G⟩:=bnd G
    refine fG eG cH (X.rd 0 rfl) N J (fun U J=>?_) rfl
    refine aJ b J ?_ rfl
    refine aU8 (m:=(0:Int).toNat * 5) iR J (fun U J=>?_) rfl rfl rfl rfl rfl
    refine aJ b J ?_ rfl
    obtain⟨cs,hV,Y⟩:=el (X.rd 0 rfl) N
    obtain rfl:=hV
    refine aH uu2 (Y 2 _ rfl) J (fun U J=>?_) rfl
    refine xg 3 b J rfl rfl fun U J=>bcG G (fun H G=>?_) fun H G=>?_
    ·refine xg 4 H J rfl rfl fun U J=>bcG G (fun I G=>?_) fun I G=>?_
     ·refine ng 4 I J rfl rfl fun U J=>?_
      replace X:=X.drop 0 |>.drop 0
      cases G
      refine l _ _ (wp_ret ?_)
      refine hQ _ _ (lv Tryz.results9 J rfl ?_)
      exact⟨j,k,rfl,(Sub.trans a h),X⟩
     refine ng 4 I J rfl rfl fun U J=>?_
     replace X:=X.drop 0 |>.drop 0
     cases G
     refine l _ _ (wp_ret ?_)
     refine hQ _ _ (lv Tryz.results9 J rfl ?_)
     exact⟨j,k,rfl,(Sub.trans a h),X⟩
    refine xg 4 H J rfl rfl fun U J=>xO 2 rfl J rfl fun U J=>bT rfl J (fun U J=>?_) rfl
    refine x_m J rfl fun U J=>wn (l _ _ ?_)
    replace X:=X.drop 0 |>.drop 0
    cases G
    refine wp_ret (hQ _ _ ?_)
    exact lv Tryz.results9 J rfl ⟨j,k,rfl,(Sub.trans a h),X⟩
   refine xg 7 b J rfl rfl fun U J=>xO 2 rfl J rfl fun U J=>bT rfl J (fun U J=>?_) rfl
   refine x_m J rfl fun U J=>xO 2 rfl J rfl fun U J=>bT rfl J (fun U J=>?_) rfl
   refine x_m J rfl fun U J=>wn (l _ _ ?_)
   replace X:=X.drop 0 |>.drop 0
   cases G
   refine wp_ret (hQ _ _ ?_)
   exact lv Tryz.results9 J rfl ⟨j,k,rfl,(Sub.trans a h),X⟩
  refine xg 5 o J rfl rfl fun U J=>xO 5 rfl J rfl fun U J=>bT rfl J (fun U J=>?_) rfl
  refine x_m J rfl fun U J=>xO 2 rfl J rfl fun U J=>bT rfl J (fun U J=>?_) rfl
  refine x_m J rfl fun U J=>xO 2 rfl J rfl fun U J=>bT rfl J (fun U J=>?_) rfl
  refine x_m J rfl fun U J=>wn (l _ _ ?_)
  replace X:=X.drop 0 |>.drop 0
  cases G
  refine wp_ret (hQ _ _ ?_)
  exact lv Tryz.results9 J rfl ⟨j,k,rfl,(Sub.trans a h),X⟩
 obtain⟨a0,a1,G⟩:=bnd G
 have a2:∀p,(p)=a0→∀x z B U w,FR 54 [] U [(1,.pointer g),(3,.slice x z B)]→SH r (sS (obj58) g i.1::own k47 47 x z B p::zone Z wz::L) w→K U w:=by
  intro p ht x z B U w J X
  subst ht
  replace G:qD i p=some y:=G
  unfold qD at G
  exact hb1 p G x z B U w (J.sub _ rfl) X
 replace X:=(SH.nil_own (d:=k47) (e:=47) X).pk 2 |>.pk 1 |>.pk 2
 refine aD a1 (fun s U w=>∃C D E,FR 54 [] U [(1,.pointer g),(3,.slice C D E),(4,.int .i64 s.2)]∧SH r (sS (obj58) g i.1::own k47 47 C D E s.1::zone Z wz::L) w) ⟨none,0,0,J.sub _ rfl,X⟩ ?_
 intro c8 a3 a4 G a5 a6 U w hLab
 obtain⟨O,f⟩:=a3
 replace G:gV O f=some a4:=G
 unfold gV at G
 try dsimp only at hLab
 obtain⟨C,D,E,J,X⟩:=hLab
 refine wp_seq_k fun c9 a7=>nz 2 J rfl fun U J=>bA J G rfl (fun a8 G=>?_) fun a8 G=>?_
 ·refine wp_skip (a7 _ _ ?_)
  refine wp_seq_k fun d0 a9=>aA fun d1 b1=>aC (xk 2 J rfl fun U J=>?_)
  refine x_v J (aV5 rfl (J.ev rfl)) rfl fun U J=>x_v (v:=.agg #[.int .u64 0,.int .i64 0,.int .i64 (IntKind.i64.wrap (0 - f)),str [],.float .f64 0]) J (qB (ps:=#[(2,.int .i64 (IntKind.i64.wrap (0 - f)))]) rfl (sB J rfl) (fun w=>by kernel_rfl)) rfl fun U J=>iM (d:=k47) (e:=47) (ps:=#[(0,.agg #[.int .u64 0,.int .i64 0,.int .i64 (IntKind.i64.wrap (0 - f)),str [],.float .f64 0])]) (cells:=[.int .u64 0,.int .i64 0,.int .i64 (IntKind.i64.wrap (0 - f)),str [],.float .f64 0]) (xs:=[(⟨0,0,IntKind.i64.wrap (0 - f),[],0⟩:S47)]) (fun w=>by kernel_rfl) rfl ⟨[.int .u64 0,.int .i64 0,.int .i64 (IntKind.i64.wrap (0 - f)),str [],.float .f64 0],_,rfl,rfl,rfl⟩ J X (fun d2 U w X J=>?_) rfl
  obtain⟨b2,G⟩:=aB G
  have hr:=X.rd 0 rfl
  refine gH 2 aB5 eG J X hr.1 hr.2.1 b2 rfl (fun b3 b4 b5 U w X J=>?_) rfl
  refine x_m J rfl fun U J=>wpList_nil (b1 _ _ ?_)
  refine a9 _ _ (aC ?_)
  refine x_m J rfl fun U J=>x_l G J rfl fun d3 _ U J G=>x_m J rfl fun U J=>wpList_nil ?_
  replace X:=X.drop 1 |>.pk 2 |>.pk 1 |>.pk 2
  cases G
  exact⟨_,a5 _ rfl,b3,b4,b5,J.sub _ rfl,X⟩
 cases G
 exact wp_exit (a2 O (a6 _ rfl) C D E U w (J.sub _ rfl) X)
theorem aJn {a0 A0 n0 c0 y} (G:xB a0=some y) (X:SH r (L) w) (qz:Nat) (hZ:L[qz]?=some (zone Z wz)) (ha0:Imm Z wz k47 A0 n0 c0 a0) :
  Ret Tryz.prog 10 #[.slice A0 n0 c0] w fun v w'=>∃ (B0:Option Addr) (m0:Nat) (d0:Nat),v=.slice B0 m0 d0∧SH r (own k47 47 B0 m0 d0 y::L) w':=by
 refine enter Tryz.func10 rfl Tryz.ntmps10 [(0,_)] rfl (by simp) ?_
 intro U J Qf hQ hQn
 unfold xB at G
 refine nz 1 J rfl fun U J=>nz 1 J rfl fun U J=>wp_seq_k fun b4 I=>nz 1 J rfl fun U J=>aA fun H K=>?_
 have hb1:∀B,xQ B=some y→∀l m n U w,FR 28 [] U [(3,.slice l m n)]→SH r (own k47 47 l m n B::L) w→H U w:=by
  intro B G l m n U w J X
  unfold xQ at G
  refine K _ _ (I _ _ ?_)
  refine nz 2 J rfl fun U J=>?_
  cases G
  refine wp_ret (hQ _ _ ?_)
  exact lv Tryz.results10 J rfl ⟨l,m,n,rfl,X⟩
 obtain⟨M,N,G⟩:=bnd G
 have O:∀k,(k)=M→∀o p q U w,FR 28 [] U [(3,.slice o p q)]→SH r (own k47 47 o p q k::L) w→H U w:=by
  intro k ht o p q U w J X
  subst ht
  replace G:uY k=some y:=G
  unfold uY at G
  exact hb1 k G o p q U w (J.sub _ rfl) X
 replace X:=SH.nil_own (d:=k47) (e:=47) X
 refine aD N (fun s U w=>∃b c f,FR 28 [] U [(0,.slice A0 n0 c0),(3,.slice b c f),(4,.int .i64 s.2)]∧SH r (own k47 47 b c f s.1::L) w) ⟨none,0,0,J.sub _ rfl,X⟩ ?_
 intro b5 P C G Q R U w hLab
 obtain⟨g,i⟩:=P
 replace G:kD a0 g i=some C:=G
 unfold kD at G
 try dsimp only at hLab
 obtain⟨b,c,f,J,X⟩:=hLab
 refine wp_seq_k fun b6 S=>wp_seq_k fun T W=>?_
 have hj1:∀D,mM a0 g i D=some C→∀U w,FR 28 [] U [(0,.slice A0 n0 c0),(3,.slice b c f),(4,.int .i64 i),(12,.bool D)]→SH r (own k47 47 b c f g::L) w→T U w:=by
  intro D G U w J X
  unfold mM at G
  refine W _ _ (bA J G rfl (fun Y G=>?_) fun Y G=>?_)
  ·refine wp_skip (S _ _ ?_)
   refine wp_seq_k fun b7 a1=>aA fun a2 a3=>?_
   have hb2:∀E,oJ i E=some C→∀t x z U w,FR 28 [] U [(0,.slice A0 n0 c0),(3,.slice t x z),(4,.int .i64 i)]→SH r (own k47 47 t x z E::L) w→a2 U w:=by
    intro E G t x z U w J X
    unfold oJ at G
    refine a3 _ _ (a1 _ _ ?_)
    refine aC (x_m J rfl fun U J=>?_)
    refine x_l G J rfl fun b8 _ U J G=>x_m J rfl fun U J=>wpList_nil ?_
    cases G
    exact⟨_,Q _ rfl,t,x,z,J.sub _ rfl,X⟩
   refine ws fun b9 a4=>xk 2 J rfl fun U J=>?_
   obtain⟨a,A,G⟩:=bnd G
   refine fG eG cH (X.rdl 1 (ha0.rdl qz hZ) rfl) A J (fun U J=>?_) rfl
   obtain⟨cs,hV,a5⟩:=el (X.rdl 1 (ha0.rdl qz hZ) rfl) A
   obtain rfl:=hV
   refine lH (cs:=[.int .u64 a.f0,.int .i64 a.f1,.int .i64 a.f2,str a.f3,.float .f64 a.f4]) lL cH (fun j u h=>by rw [eU]; exact a5 _ _ h) J (fun U J=>?_) rfl
   obtain⟨c1,a6,G⟩:=bnd G
   refine x_c bBa J rfl (aLk a6 X :) fun v U w hR J=>?_
   obtain⟨rfl,X⟩:=hR
   refine wn (a4 _ _ ?_)
   refine bA J G rfl (fun a7 G=>?_) fun a7 G=>?_
   ·refine aC (xk 3 J rfl fun U J=>?_)
    refine fG eG cH (X.rdl 1 (ha0.rdl qz hZ) rfl) A J (fun U J=>?_) rfl
    obtain⟨cs,hV,a8⟩:=el (X.rdl 1 (ha0.rdl qz hZ) rfl) A
    obtain rfl:=hV
    refine lH (cs:=[.int .u64 a.f0,.int .i64 a.f1,.int .i64 a.f2,str a.f3,.float .f64 a.f4]) lL cH (fun j u h=>by rw [eU]; exact a8 _ _ h) J (fun U J=>?_) rfl
    refine iM (d:=k47) (e:=47) (ps:=#[(0,.agg #[.int .u64 a.f0,.int .i64 a.f1,.int .i64 a.f2,str a.f3,.float .f64 a.f4])]) (cells:=[.int .u64 a.f0,.int .i64 a.f1,.int .i64 a.f2,str a.f3,.float .f64 a.f4]) (xs:=[a]) (fun w=>by kernel_rfl) rfl ⟨[.int .u64 a.f0,.int .i64 a.f1,.int .i64 a.f2,str a.f3,.float .f64 a.f4],_,rfl,rfl,rfl⟩ J X (fun c2 U w X J=>?_) rfl
    obtain⟨a9,G⟩:=aB G
    have hr:=X.rd 0 rfl
    refine gH 1 aB5 eG J X hr.1 hr.2.1 a9 rfl (fun b1 b2 b3 U w X J=>?_) rfl
    refine x_m J rfl fun U J=>wpList_nil ?_
    replace X:=X.drop 1
    exact hb2 (g++[a]) G b1 b2 b3 U w (J.sub _ rfl) X
   exact wp_skip (hb2 g G b c f U w (J.sub _ rfl) X)
  cases G
  exact wp_exit (O g (R _ rfl) b c f U w (J.sub _ rfl) X)
 refine aC (xk 2 J rfl fun U J=>?_)
 refine aU eG (X.rdl 1 (ha0.rdl qz hZ) rfl).2.1 J (fun U J=>?_) rfl
 refine xk 2 J rfl fun U J=>bcG G (fun F G=>?_) fun F G=>?_
 ·exact ng 3 F J rfl rfl fun U J=>hj1 (decide (i<200)) G U w (J.sub _ rfl) X
 exact ng 3 F J rfl rfl fun U J=>hj1 false G U w (J.sub _ rfl) X
end
noncomputable section
set_option linter.unusedSimpArgs false
def mU (a0:(List S47)) (a1:Int) (a2:Int):Option (Bool) :=
  (uP).bind fun c=>(if (!c)=true then (some false) else ((xB a0).bind fun b=>(ltt (IntKind.i64.wrap a1) fun d=>(ltt (IntKind.i64.wrap (1+d)) fun e=>((wC e).bind fun f=>(ltt (IntKind.i64.wrap a2) fun g=>(ltt (g.tmod 20) fun h=>(ltt (IntKind.i64.wrap (1+h)) fun i=>((nM f.1 b 8 (⟨i,3⟩:S26)).bind fun a=>(if (a.2.2.2.1==10)=true then (if ((a.1.length:Int)==0)=true then ((kH a.2.2.2.2).bind fun j=>(if (j==0)=true then ((kP a.2.2.2.2).bind fun k=>(some ((k.length:Int)==0))) else (some false))) else (some false)) else (if (a.2.2.2.1==0)=true then ((zT b).bind fun l=>((rU a.1 l).bind fun m=>(some m))) else (some false))))))))))))
end
theorem aBy {r:World} {L:List HP} {w:World} {Z:Nat→Prop} {wz:World} (a0:(List S47)) (a1:Int) (a2:Int) (A0:Option Addr) (n0:Nat) (c0:Nat) {y:(Bool)} (G:mU a0 a1 a2=some y) (ha0:Imm Z wz k47 A0 n0 c0 a0) (hG1:Imm Z wz (kI .u32) (some ⟨1,0,none⟩) 16 16 cW) (hG2:Gb Z wz 2 .u64 cO) (X:SH r (zone Z wz::L) w) :
  Ret Tryz.prog 4 #[.slice A0 n0 c0,.int .u16 a1,.int .u8 a2] w fun v w'=>∃ (Z':Nat→Prop) (wz':World),v=.bool y∧Sub Z wz Z' wz'∧SH r (zone Z' wz'::L) w':=by
 refine enter Tryz.func4 rfl Tryz.ntmps4 [(0,_),(1,_),(2,_)] rfl (by simp) ?_
 intro U J Qf hQ hQn
 unfold mU at G
 refine nz 1 J rfl fun U J=>wp_seq_k fun W p=>ws fun Y q=>?_
 obtain⟨a3,s,G⟩:=bnd G
 refine x_c en9 J rfl (aGr s X hG1 hG2 :) fun v U w hR J=>?_
 obtain⟨t,u,rfl,a,X⟩:=hR
 have k:=Imm.sub ha0 a
 refine nk 1 J rfl fun U J=>q _ _ (bA J G rfl (fun x G=>?_) fun x G=>?_)
 ·refine nz 1 J rfl fun U J=>?_
  cases G
  refine wp_ret (hQ _ _ ?_)
  exact lv Tryz.results4 J rfl ⟨t,u,rfl,a,X⟩
 refine wp_skip (p _ _ ?_)
 refine ws fun a4 z=>xk 1 J rfl fun U J=>?_
 obtain⟨a5,B,G⟩:=bnd G
 refine x_c bBs J rfl (aJn B X 0 rfl k :) fun v U w hR J=>?_
 obtain⟨C,D,E,rfl,X⟩:=hR
 refine x_m J rfl fun U J=>wn (z _ _ ?_)
 refine ws fun a6 F=>xk 1 J rfl fun U J=>gQ G J (aY bBt uu3 rfl (J.ev rfl)) rfl fun a7 _ U J G=>x_l G J rfl fun a8 _ U J G=>?_
 obtain⟨a9,H,G⟩:=bnd G
 refine x_c aZv J rfl (aDp H X :) fun v U w hR J=>?_
 obtain⟨b1,rfl,X⟩:=hR
 refine nk 5 J rfl fun U J=>F _ _ (ws fun b2 I=>?_)
 refine xk 3 J rfl fun U J=>gQ G J (aY uu5 uu3 rfl (J.ev rfl)) rfl fun b3 _ U J G=>gQ G J (aHg rfl (J.ev rfl) (J.ev rfl) (by decide)) rfl fun b4 _ U J G=>x_l G J rfl fun l _ U J G=>x_v (v:=.agg #[.int .i64 l,.int .i64 3]) J (qB (ps:=#[(0,.int .i64 l),(1,.int .i64 3)]) rfl (sB J rfl) (fun w=>by kernel_rfl)) rfl fun U J=>?_
 replace X:=X.pk 2 |>.pk 2
 obtain⟨b5,b6,X,m,b⟩:=SH.freeze (n:=D) (c:=E) (A:=C) X
 have K:=Imm.sub k b
 replace X:=X.pk 1
 obtain⟨b7,M,G⟩:=bnd G
 refine x_c aZ3 J rfl (aBc M X m (Imm.sub hG1 (Sub.trans a b)) (Gb.sub hG2 (Sub.trans a b)) :) fun v U w hR J=>?_
 obtain⟨g,h,b8,b9,c1,rfl,d,X⟩:=hR
 have c2:=Imm.sub K d
 have N:=Imm.sub m d
 refine nk 9 J rfl fun U J=>I _ _ (wp_seq_k fun c3 O=>?_)
 refine nz 2 J rfl fun U J=>bA J G rfl (fun P G=>?_) fun P G=>?_
 ·refine ws fun c4 j=>xk 1 J rfl fun U J=>aU eG (X.rd 0 rfl).2.1 J (fun U J=>?_) rfl
  refine xk 2 J rfl fun U J=>bcG G (fun i G=>?_) fun i G=>?_
  ·refine xg 1 i J rfl rfl fun U J=>aJ i J ?_ rfl
   replace X:=X.pk 1
   obtain⟨c5,Q,G⟩:=bnd G
   refine x_c aY3 J rfl (wN Q X :) fun v U w hR J=>?_
   obtain⟨rfl,X⟩:=hR
   refine xg 3 i J rfl rfl fun U J=>bcG G (fun e G=>?_) fun e G=>?_
   ·refine xg 1 e J rfl rfl fun U J=>aJ e J ?_ rfl
    obtain⟨c6,R,G⟩:=bnd G
    refine x_c aX6 J rfl (wH R X :) fun v U w hR J=>?_
    obtain⟨c7,c8,c9,rfl,X⟩:=hR
    refine aJ e J ?_ rfl
    refine aU lG (X.rd 0 rfl).2.1 J (fun U J=>?_) rfl
    refine ng 3 e J rfl rfl fun U J=>?_
    replace X:=X.drop 0 |>.drop 0 |>.drop 0
    cases G
    refine j _ _ (wp_ret ?_)
    refine hQ _ _ (lv Tryz.results4 J rfl ?_)
    exact⟨g,h,rfl,(Sub.trans (Sub.trans a b) d),X⟩
   refine ng 6 e J rfl rfl fun U J=>?_
   replace X:=X.drop 0 |>.drop 0
   cases G
   refine j _ _ (wp_ret ?_)
   refine hQ _ _ (lv Tryz.results4 J rfl ?_)
   exact⟨g,h,rfl,(Sub.trans (Sub.trans a b) d),X⟩
  refine xg 5 i J rfl rfl fun U J=>xO 4 rfl J rfl fun U J=>bT rfl J (fun U J=>?_) rfl
  refine x_m J rfl fun U J=>wn (j _ _ ?_)
  replace X:=X.drop 0 |>.drop 0
  cases G
  refine wp_ret (hQ _ _ ?_)
  exact lv Tryz.results4 J rfl ⟨g,h,rfl,(Sub.trans (Sub.trans a b) d),X⟩
 refine wp_skip (O _ _ ?_)
 refine ws fun d0 o=>xk 3 J rfl fun U J=>bcG G (fun f G=>?_) fun f G=>?_
 ·refine xg 2 f J rfl rfl fun U J=>aJ f J ?_ rfl
  obtain⟨d1,S,G⟩:=bnd G
  refine x_c bCx J rfl (aL4 S X (N.rdl 2 rfl) :) fun v U w hR J=>?_
  obtain⟨d2,d3,d4,rfl,X⟩:=hR
  refine aJ f J ?_ rfl
  obtain⟨d5,T,G⟩:=bnd G
  refine x_c bB5 J rfl (aGx T X (RdL.own 1 rfl (X.dropN 0)) (RdL.own 0 rfl (X.dropN 0)) :) fun v U w hR J=>?_
  obtain⟨rfl,X⟩:=hR
  refine ng 2 f J rfl rfl fun U J=>?_
  replace X:=X.drop 0 |>.drop 0 |>.drop 0
  cases G
  refine o _ _ (wp_ret ?_)
  refine hQ _ _ (lv Tryz.results4 J rfl ?_)
  exact⟨g,h,rfl,(Sub.trans (Sub.trans a b) d),X⟩
 refine ng 6 f J rfl rfl fun U J=>?_
 replace X:=X.drop 0 |>.drop 0
 cases G
 refine o _ _ (wp_ret ?_)
 refine hQ _ _ (lv Tryz.results4 J rfl ?_)
 exact⟨g,h,rfl,(Sub.trans (Sub.trans a b) d),X⟩
end Go.Proofs.YtnefioccdkmegaaGreatDoor.M
namespace Go.Proofs.YtnefioccdkmegaaGreatDoor.sorterFull
open Go Go.RowKit Go.ChangeShapes Go.WideShapes Go.ChangeAt Go.Proofs.YtnefioccdkmegaaGreatDoor.E Go.Proofs.YtnefioccdkmegaaGreatDoor.M
set_option linter.unusedVariables false
theorem own:ownKnob Tryz.prog.godebug=none:=by kernel_rfl
theorem aJt:laidOutB Tryz.prog=true:=by kernel_rfl
theorem gN1 : Tryz.prog.globalNamed "headrace/page.table" = some 1 := by kernel_rfl
theorem gT1:(Tryz.prog.globals[1]?).map (·.type)=some 174:=by kernel_rfl
theorem gN2 : Tryz.prog.globalNamed "internal/strconv.uint64pow10" = some 2 := by kernel_rfl
theorem gT2:(Tryz.prog.globals[2]?).map (·.type)=some 182:=by kernel_rfl
theorem aPn (os:Os) (args:Array Value):laidMetH Tryz.prog Rows.sorterFullRow.laid ((World.doorLaid Tryz.prog 400 os).forCall (fun _ _=>0) ⟨#[],args,[]⟩).memory :=
  laidMetH_of_parts3 (fuel:=8) (laidMet_of_run' 8 (by kernel_rfl) (by kernel_rfl)) (by kernel_rfl) (by kernel_rfl)
theorem aRh {W:World} (h:laidMetH Tryz.prog Rows.sorterFullRow.laid W):Imm (aDn W) W (kI .u32) (some ⟨1,0,none⟩) 16 16 M.cW:=by
  rw [MakeChecks.laidMetH_plain _ _ _ (by kernel_rfl)] at h
  replace h := h.filter (fun x => x.1 == "headrace/page.table")
  exact aT5 gN1 gT1 Tryz.underlying174 Tryz.underlying146 aY2 rfl (by decide) h
theorem aQg {W:World} (h:laidMetH Tryz.prog Rows.sorterFullRow.laid W):Gb (aDn W) W 2 .u64 M.cO:=by
  rw [MakeChecks.laidMetH_plain _ _ _ (by kernel_rfl)] at h
  replace h := h.filter (fun x => x.1 == "internal/strconv.uint64pow10")
  exact aXd gN2 gT2 Tryz.underlying182 Tryz.underlying44 aYq (by kernel_rfl) h
def aWk:Prop:=∀ (a0:(List M.S47)) (a1:Int) (a2:Int),(gL 48 M.g47) a0→(gI .u16) a1→(gI .u8) a2→M.mU a0 a1 a2=some true
set_option maxRecDepth 100000 in
theorem aXk (hP:aWk) (os:Os) (started:os.Started) (H:Type) (enc:TypeId×Value→H) :
    ReturnsInHanded {} Tryz.checked os 4 .any (fun w args=>(Rows.sorterFullSpec.pre enc Tryz.prog Tryz.f4 [] false w args∧laidMetH Tryz.prog Rows.sorterFullRow.laid w)∧sizedMet enc Tryz.prog Tryz.f4 (OpenSpec.ofChange Rows.sorterFullSpec) false w args)
      (Rows.sorterFullSpec.post enc Tryz.prog Tryz.f4 false true false false):=by
  refine returnsInHanded_of_change_and (C:=Tryz.checked) (X:=fun w _=>laidMetH Tryz.prog Rows.sorterFullRow.laid w) (fun _ _ _ hh h=>h.of_heap hh) own started (by kernel_rfl) Tryz.func4
    (ChangeSpec.witness_shaped (enc:=enc) (C:=Tryz.checked) (os:=os) (X:=fun w _=>laidMetH Tryz.prog Rows.sorterFullRow.laid w) false (World.doorLaid Tryz.prog 400 os) #[.slice none 0 0,.int .u16 0,.int .u8 0] 8 rfl (World.shaped_of_RefB (by kernel_rfl) (by kernel_rfl)) (by kernel_rfl) (by kernel_rfl) (by kernel_rfl) (aPn os _)) ?_
  intro W base args ds gs before hval0 hW hcnd hsz0 hL _
  have hsz:(DataW.weightsEach Tryz.prog (Tryz.f4.params.toList++Rows.sorterFullSpec.plain.varTypes Tryz.prog) (ds++gs)).all (· ≤ reachBytes)=true:=hsz0
  have hval:∀ (j:Nat) t v,Tryz.f4.params[j]?=some t→args[j]?=some v→Value.okWide Tryz.prog W .any base t v:=hval0
  have hW':=hW
  obtain⟨p,q,hA0,hV,rfl,hfz,hnd⟩:=hW
  have hA:DataW.TrodAll enc Tryz.prog W 0 (fun _=>true) true Tryz.f4.params.toList args.toList ds p:=hA0
  rw [Tryz.params4] at hA hval hsz
  obtain⟨v0,vs0,d0,ds0,p0,q0,hargs,rfl,rfl,h0,r0⟩:=trodAll_cons hA
  obtain⟨v1,vs1,d1,ds1,p1,q1,rfl,rfl,rfl,h1,r1⟩:=trodAll_cons r0
  obtain⟨v2,vs2,d2,ds2,p2,q2,rfl,rfl,rfl,h2,r2⟩:=trodAll_cons r1
  obtain⟨rfl,rfl,rfl⟩:=trodAll_nil r2
  obtain rfl:args=#[v0,v1,v2]:=by cases args; simp_all
  obtain⟨rfl,rfl⟩:=trodVars_none hV
  have k0:=h0
  have lt0:∀ x∈p0,x.block<W.heap.size:=by obtain⟨m,hm⟩:=k0; exact DataW.trod_lt m _ _ _ hm
  obtain⟨x0,hx0,g0⟩:=Opens.arg (bB4 Tryz.underlying22 bAj (Nat.succ_pos _) bBz op47) h0 (Wt.of hsz (j:=0) rfl rfl)
  obtain⟨A0,n0,c0,rfl⟩:=okWide_slice Tryz.underlying22 (hval 0 22 v0 rfl rfl)
  obtain⟨A0',n0',c0',he0,i0⟩:=hx0
  cases (show [Value.slice A0 n0 c0]=[Value.slice A0' n0' c0'] from he0)
  have k1:=h1
  have lt1:∀ x∈p1,x.block<W.heap.size:=by obtain⟨m,hm⟩:=k1; exact DataW.trod_lt m _ _ _ hm
  obtain⟨x1,hx1,g1⟩:=Opens.arg (opI Tryz.underlying40) h1 (Wt.of hsz (j:=1) rfl rfl)
  obtain⟨u1,rfl⟩:=okWide_int Tryz.underlying40 (hval 1 40 v1 rfl rfl)
  cases (show [Value.int .u16 u1]=[Value.int .u16 x1] from hx1)
  have k2:=h2
  have lt2:∀ x∈p2,x.block<W.heap.size:=by obtain⟨m,hm⟩:=k2; exact DataW.trod_lt m _ _ _ hm
  obtain⟨x2,hx2,g2⟩:=Opens.arg (opI Tryz.underlying5) h2 (Wt.of hsz (j:=2) rfl rfl)
  obtain⟨u2,rfl⟩:=okWide_int Tryz.underlying5 (hval 2 5 v2 rfl rfl)
  cases (show [Value.int .u8 u2]=[Value.int .u8 x2] from hx2)
  clear hA0 hval0 hsz0 hsz
  refine Calls.mono (M.aBy (Z:=aDn W) (wz:=W) x0 x1 x2 A0 n0 c0 (hP x0 x1 x2 g0 g1 g2) i0 (aRh hL) (aQg hL) (L:=[]) (SH.start W)) ?_
  rintro e W' ⟨v,rfl,Z',wz',rfl,hs,hS⟩
  have bel:=SH.below hS hs
  exact⟨_,rfl,_,_,_,[],_,[],hW',trodAll_mk1 (shut_bool Tryz.underlying4 _),(trodAll_cons_mk (Below.trod aJt (by kernel_rfl) (of_decide_eq_true (by kernel_rfl)) k0 bel lt0) (trodAll_cons_mk (Below.trod aJt (by kernel_rfl) (of_decide_eq_true (by kernel_rfl)) k1 bel lt1) (trodAll_cons_mk (Below.trod aJt (by kernel_rfl) (of_decide_eq_true (by kernel_rfl)) k2 bel lt2) trodAll_mk0))),rfl,bel.frame _,fun h=>by cases h⟩
theorem bB6 (hP:aWk):Rows.sorterFullRow.holds Tryz.pinned (OpenSpec.ofChange Rows.sorterFullSpec) :=
  OpenClaim.holds_of_wide 4 Tryz.f4 rfl rfl rfl rfl rfl rfl rfl ⟨rfl,rfl,rfl,rfl,rfl⟩ rfl rfl rfl rfl rfl (by kernel_rfl) Tryz.func4 (by kernel_rfl)
    (of_decide_eq_true (by kernel_rfl)) (by unfold Func.isWrapper; first | (rw [if_pos (by decide +kernel)]; kernel_rfl) | (rw [if_neg (by decide +kernel)]; exact⟨rfl,rfl⟩))
    (fun os started H enc _=>aXk hP os started H enc)
def hrn:Bool×String:=Rows.sorterFullCard.stood.harness
theorem card (hP:aWk):Rows.SorterFullCardSaid :=
  Claim7.holds_tied_plain_at .later [] [.data,.data,.data,.data] true hrn true
    (bB6 hP) (fun _ h=>by cases h) (by kernel_rfl) (fun _ h=>by cases h) sorterFull_row_tie rfl ⟨rfl,rfl⟩ (by kernel_rfl) rfl
    (fun f fn hf hfn=>by
      obtain rfl : f = 4 := Option.some.inj ((show Tryz.prog.funcNamed "headrace/headracelaw10.SorterFull" = some 4 by kernel_rfl).symm.trans hf) |>.symm
      obtain rfl:fn=Tryz.f4:=(Option.some.inj (Tryz.func4.symm.trans hfn)).symm
      exact⟨by kernel_rfl,fun j t ht=>by
        rw [Tryz.params4] at ht
        have hm:t∈[22,40,5]:=by simpa using Array.mem_of_getElem? ht
        have hall:([22,40,5].all fun u => !Tryz.prog.wantsStandIn u)=true:=by kernel_rfl
        exact (show Tryz.prog.wantsStandIn t=false by simpa using List.all_eq_true.1 hall t hm)⟩)
    (by kernel_rfl)
end Go.Proofs.YtnefioccdkmegaaGreatDoor.sorterFull
namespace Go.Proofs.YtnefioccdkmegaaGreatDoor.P
open Go Go.RowKit Go.Proofs.YtnefioccdkmegaaGreatDoor.E Go.Proofs.YtnefioccdkmegaaGreatDoor.M
set_option linter.unusedVariables false
set_option linter.unusedSectionVars false
theorem aMi {α:Type} (xs:List α) (n:Nat):at_ xs (n:Int)=xs[n]?:=by simp [at_]
theorem aI {α:Type} {xs:List α} {i:Int} {n:Nat} {x:α} (hi:i=n) (h:xs[n]?=some x):at_ xs i=some x:=by subst hi; rw [aMi,h]
theorem uH {α:Type} {xs:List α} {l u:Nat} (h:l≤u) (hu:u≤xs.length):oP xs (l:Int) (u:Int)=some ((xs.take u).drop l):=by
 unfold oP; rw [if_pos (by omega)]; simp
theorem aX {α:Type} {p:Prop} [Decidable p] {x:Option α} (h:p):chk p x=x:=if_pos h
theorem w64 {n:Int} (h : -9223372036854775808≤n) (h':n≤9223372036854775807):IntKind.i64.wrap n=n:=IntWalk.i64_in n ⟨h,h'⟩
theorem aBx {n:Int} (h:0≤n) (h':n<18446744073709551616):IntKind.u64.wrap n=n:=IntWalk.u64_in n ⟨h,by omega⟩
theorem u8w {n:Int} (h:0≤n) (h':n<256):IntKind.u8.wrap n=n:=IntWalk.u8_in n ⟨h,by omega⟩
theorem lt_ {α β:Type} (e:α) (f:α→Option β):ltt e f=f e:=rfl
theorem aJc {σ τ:Type} {b:σ→Option (σ⊕τ)} (f:Nat→σ) {t:τ}:∀ (n:Nat) (i:Nat),(∀ k,i≤k→k<i+n→b (f k)=some (.inl (f (k+1))))→b (f (i+n))=some (.inr t)→loop b (f i)=some t
 | 0,i,_,he=>bJ he
 | n+1,i,hs,he=>(dD (hs i (Nat.le_refl _) (by omega))).trans (aJc f n (i+1) (fun k h1 h2=>hs k (by omega) (by omega)) (by rw [show i+1+n=i+(n+1) by omega]; exact he))
theorem iY {σ τ:Type} {b:σ→Option (σ⊕τ)} (f:Nat→σ) {t:τ} (n:Nat) (hs:∀ k,k<n→b (f k)=some (.inl (f (k+1)))) (he:b (f n)=some (.inr t)):loop b (f 0)=some t :=
 aJc f n 0 (fun k _ h=>hs k (by omega)) (by simpa using he)
theorem fP (n a:Nat):BitVec.ofInt n (a:Int)=BitVec.ofNat n a:=BitVec.ofInt_natCast n a
theorem aCi (a:Nat):IntKind.u64.wrap (a:Int)=((a % 18446744073709551616:Nat):Int):=by
 rw [IntKind.wrap_u64]; omega
theorem zK (a:Nat):IntKind.u8.wrap (a:Int)=((a % 256:Nat):Int):=by rw [IntKind.wrap_u8]; omega
theorem aFd {a b:Nat} (ha:a<18446744073709551616) (hb:b<18446744073709551616):yX .u64 (a:Int) (b:Int)=((a &&& b:Nat):Int):=by
 unfold yX
 rw [fP,fP,aCi]
 have h:a &&& b<18446744073709551616:=Nat.lt_of_le_of_lt Nat.and_le_left ha
 simp only [BitVec.toNat_and,BitVec.toNat_ofNat,show IntKind.u64.bits=64 from rfl]
 rw [Nat.mod_eq_of_lt (show a<2 ^ 64 by omega),Nat.mod_eq_of_lt (show b<2 ^ 64 by omega),Nat.mod_eq_of_lt h]
theorem aUn {a b:Nat} (ha:a<256) (hb:b<256):yX .u8 (a:Int) (b:Int)=((a &&& b:Nat):Int):=by
 unfold yX
 rw [fP,fP,zK]
 have h:a &&& b<256:=Nat.lt_of_le_of_lt Nat.and_le_left ha
 simp only [BitVec.toNat_and,BitVec.toNat_ofNat,show IntKind.u8.bits=8 from rfl]
 rw [Nat.mod_eq_of_lt (show a<2 ^ 8 by omega),Nat.mod_eq_of_lt (show b<2 ^ 8 by omega),Nat.mod_eq_of_lt h]
theorem aS2 {a b:Nat} (ha:a<18446744073709551616) (hb:b<18446744073709551616):ior .u64 (a:Int) (b:Int)=((a ||| b:Nat):Int):=by
 unfold ior
 rw [fP,fP,aCi]
 have h:a ||| b<2 ^ 64:=Nat.or_lt_two_pow (show a<2 ^ 64 by omega) (show b<2 ^ 64 by omega)
 simp only [BitVec.toNat_or,BitVec.toNat_ofNat,show IntKind.u64.bits=64 from rfl]
 rw [Nat.mod_eq_of_lt (show a<2 ^ 64 by omega),Nat.mod_eq_of_lt (show b<2 ^ 64 by omega),Nat.mod_eq_of_lt (show a ||| b<18446744073709551616 from h)]
theorem aRk {a b:Nat} (ha:a<256) (hb:b<256):ior .u8 (a:Int) (b:Int)=((a ||| b:Nat):Int):=by
 unfold ior
 rw [fP,fP,zK]
 have h:a ||| b<2 ^ 8:=Nat.or_lt_two_pow (show a<2 ^ 8 by omega) (show b<2 ^ 8 by omega)
 simp only [BitVec.toNat_or,BitVec.toNat_ofNat,show IntKind.u8.bits=8 from rfl]
 rw [Nat.mod_eq_of_lt (show a<2 ^ 8 by omega),Nat.mod_eq_of_lt (show b<2 ^ 8 by omega),Nat.mod_eq_of_lt (show a ||| b<256 from h)]
theorem aP8 {a b:Nat} (ha:a<18446744073709551616) (hb:b<18446744073709551616):xW .u64 (a:Int) (b:Int)=((a ^^^ b:Nat):Int):=by
 unfold xW
 rw [fP,fP,aCi]
 have h:a ^^^ b<2 ^ 64:=Nat.xor_lt_two_pow (show a<2 ^ 64 by omega) (show b<2 ^ 64 by omega)
 simp only [BitVec.toNat_xor,BitVec.toNat_ofNat,show IntKind.u64.bits=64 from rfl]
 rw [Nat.mod_eq_of_lt (show a<2 ^ 64 by omega),Nat.mod_eq_of_lt (show b<2 ^ 64 by omega),Nat.mod_eq_of_lt (show a ^^^ b<18446744073709551616 from h)]
theorem aEs (n:Nat):(2:Int) ^ n=((2 ^ n:Nat):Int):=(Int.natCast_pow 2 n).symm
theorem mV {k:IntKind} (a n:Nat) (h:n≤k.bits):bS k (a:Int) (n:Int)=((a / 2 ^ n:Nat):Int):=by
 unfold bS
 rw [Int.toNat_natCast,Nat.min_eq_left h,aEs,Int.fdiv_eq_ediv_of_nonneg _ (Int.natCast_nonneg _)]
 rfl
theorem aJz (a n:Nat) (h:n≤64):zE .u64 (a:Int) (n:Int)=((a * 2 ^ n % 18446744073709551616:Nat):Int):=by
 unfold zE
 rw [Int.toNat_natCast,show min n IntKind.u64.bits=n from Nat.min_eq_left h,aEs, ← Int.natCast_mul,aCi]
theorem aS1 (a n:Nat) (h:n≤8):zE .u8 (a:Int) (n:Int)=((a * 2 ^ n % 256:Nat):Int):=by
 unfold zE
 rw [Int.toNat_natCast,show min n IntKind.u8.bits=n from Nat.min_eq_left h,aEs, ← Int.natCast_mul,zK]
theorem aC7 {a n:Nat} (h:a<2 ^ n) (b:Nat):a ||| (b * 2 ^ n)=a+b * 2 ^ n:=by
 rw [Nat.or_comm,Nat.mul_comm, ← Nat.two_pow_add_eq_or_of_lt h,Nat.add_comm]
def uv (n:Nat):List Int:=if h:n<128 then [(n:Int)] else ((n % 128+128:Nat):Int)::uv (n / 128)
termination_by n
decreasing_by omega
theorem aAe {n:Nat} (h:n<128):uv n=[(n:Int)]:=by rw [uv,dif_pos h]
theorem zY {n:Nat} (h:¬ n<128):uv n=((n % 128+128:Nat):Int)::uv (n / 128):=by rw [uv,dif_neg h]
theorem aG7:∀ (k n:Nat),n<128 ^ (k+1)→(uv n).length≤k+1
 | 0,n,h=>by rw [aAe (by simpa using h)]; simp
 | k+1,n,h=>by
  by_cases hn:n<128
  ·rw [aAe hn]; simp
  ·rw [zY hn,List.length_cons]
   have:=aG7 k (n / 128) (by rw [Nat.pow_succ] at h; exact Nat.div_lt_of_lt_mul (by rw [Nat.mul_comm]; exact h))
   omega
theorem dG {n:Nat} (h:n<18446744073709551616):(uv n).length≤10:=aG7 9 n (by omega)
set_option maxRecDepth 100000 in
theorem aWp:∀ m:Fin 256,(m.val ||| 128)=m.val % 128+128:=by decide
theorem aAg (n:Nat):∀ (a0:List Int),n<18446744073709551616→a0.length+(uv n).length≤140737488355328→kG a0 (n:Int)=some (a0++uv n):=by
 induction n using Nat.strongRecOn with
 | _ n ih =>
  intro a0 h hl
  unfold kG
  by_cases hn:n<128
  ·rw [bJ (t:=(a0,(n:Int))) (by
    show kY a0 (n:Int)=_
    unfold kY
    rw [if_neg (by simp only [decide_eq_true_eq]; omega)])]
   simp only [Option.bind_some]
   unfold qE sC
   rw [aAe hn] at hl ⊢
   rw [lt_,u8w (by omega) (by omega),aX (by simpa using hl)]
  ·have hl':=hl
   rw [zY hn,List.length_cons] at hl'
   have e1:IntKind.u8.wrap (n:Int)=((n % 256:Nat):Int):=zK n
   have e2:ior .u8 ((n % 256:Nat):Int) 128=((n % 128+128:Nat):Int):=by
    have:=aRk (a:=n % 256) (b:=128) (by omega) (by omega)
    rw [show ((128:Nat):Int)=128 from rfl] at this
    rw [this,aWp ⟨n % 256,by omega⟩]
    simp only
    omega
   have e3:bS .u64 (n:Int) 7=((n / 128:Nat):Int):=mV (k:=.u64) n 7 (by decide)
   rw [dD (s':=(a0++[((n % 128+128:Nat):Int)],((n / 128:Nat):Int))) (by
    show kY a0 (n:Int)=_
    unfold kY
    rw [if_pos (by simp only [decide_eq_true_eq]; omega),lt_,e1,lt_,e2,aX (by simp; omega),lt_,e3])]
   have:=ih (n / 128) (by omega) (a0++[((n % 128+128:Nat):Int)]) (by omega) (by simp; omega)
   unfold kG at this
   rw [this,zY hn]
   simp
def zz (i:Int):Nat:=if i<0 then (-(i+1)).toNat * 2+1 else i.toNat * 2
def uz (n:Nat):Int:=if n % 2=1 then -((n / 2:Nat):Int) - 1 else ((n / 2:Nat):Int)
theorem aX0 (i:Int):uz (zz i)=i:=by unfold uz zz; split <;> split <;> omega
def i64 (i:Int):Prop := -9223372036854775808≤i∧i≤9223372036854775807
theorem aBh {i:Int} (h:i64 i):zz i<18446744073709551616:=by
 unfold i64 at h
 unfold zz; split <;> omega
theorem aAc (x:Int):i64 (IntKind.i64.wrap x):=by
 rw [IntWalk.i64_left]; unfold wrap64 i64; omega
theorem aSa {a:Nat} (h:a<18446744073709551616):xW .u64 (a:Int) 18446744073709551615=((18446744073709551615 - a:Nat):Int):=by
 show IntKind.u64.wrap (((BitVec.ofInt 64 (a:Int) ^^^ BitVec.allOnes 64).toNat:Nat):Int)=_
 rw [fP,BitVec.xor_allOnes,aCi,BitVec.toNat_not,BitVec.toNat_ofNat,Nat.mod_eq_of_lt (show a<2 ^ 64 by omega)]
 omega
theorem bA5 {i:Int} (h:i64 i):xW .u64 (IntKind.u64.wrap (zE .i64 i 1)) (IntKind.u64.wrap (bS .i64 i 63))=(zz i:Int):=by
 unfold i64 at h
 have e1:zE .i64 i 1=IntKind.i64.wrap (i * 2):=rfl
 have e2:bS .i64 i 63=if i<0 then -1 else 0:=by
  unfold bS
  rw [show (63:Int).toNat=63 from rfl,show min 63 IntKind.i64.bits=63 from rfl,Int.fdiv_eq_ediv_of_nonneg _ (by decide)]
  split <;> omega
 rw [e1,e2]
 have e3:IntKind.u64.wrap (IntKind.i64.wrap (i * 2))=(i * 2) % 18446744073709551616:=by
  rw [IntKind.wrap_u64,IntWalk.i64_left]; unfold wrap64; omega
 rw [e3]
 unfold zz
 by_cases hi:i<0
 ·rw [if_pos hi,if_pos hi,show IntKind.u64.wrap (-1)=18446744073709551615 from rfl]
  obtain⟨m,hm⟩:∃ m:Nat,(i * 2) % 18446744073709551616=(m:Int):=⟨((i * 2) % 18446744073709551616).toNat,by omega⟩
  rw [hm,aSa (by omega)]
  omega
 ·rw [if_neg hi,if_neg hi,show IntKind.u64.wrap 0=((0:Nat):Int) from rfl]
  obtain⟨m,hm⟩:∃ m:Nat,(i * 2) % 18446744073709551616=(m:Int):=⟨((i * 2) % 18446744073709551616).toNat,by omega⟩
  rw [hm,aP8 (by omega) (by omega),Nat.xor_zero]
  omega
theorem aEq {i:Int} (h:i64 i) (a0:List Int) (hl:a0.length+10≤140737488355328):pJ a0 i=some (a0++uv (zz i)):=by
 unfold pJ
 have:=dG (aBh h)
 simp only [lt_,bA5 h,aAg _ a0 (aBh h) (by omega),Option.bind_some]
theorem aKx (s:List UInt8) (a0:List Int) (hs:s.length≤9223372036854775807) (hl:a0.length+s.length+10≤140737488355328):pM a0 s=some (a0++uv s.length++stb s):=by
 unfold pM
 have:=dG (n:=s.length) (by omega)
 rw [lt_,aBx (by omega) (by omega),aAg _ a0 (by omega) (by omega)]
 simp only [Option.bind_some]
 rw [aX (by simp; omega)]
def Bs (xs:List Int):Prop:=∀ b∈xs,0≤b∧b<256
theorem Bs.nil:Bs []:=fun _ h=>by cases h
theorem Bs.cons {b:Int} {xs:List Int} (h:Bs (b::xs)):(0≤b∧b<256)∧Bs xs:=⟨h b List.mem_cons_self,fun c hc=>h c (List.mem_cons_of_mem _ hc)⟩
theorem Bs.mk {b:Int} {xs:List Int} (hb:0≤b∧b<256) (h:Bs xs):Bs (b::xs):=fun c hc=>by
 rcases List.mem_cons.1 hc with rfl | hc
 ·exact hb
 ·exact h c hc
theorem Bs.app {xs ys:List Int} (h:Bs xs) (h':Bs ys):Bs (xs++ys):=fun c hc=>(List.mem_append.1 hc).elim (h c) (h' c)
theorem Bs.l {xs ys:List Int} (h:Bs (xs++ys)):Bs xs:=fun c hc=>h c (List.mem_append.2 (.inl hc))
theorem Bs.r {xs ys:List Int} (h:Bs (xs++ys)):Bs ys:=fun c hc=>h c (List.mem_append.2 (.inr hc))
theorem Bs.drop {xs:List Int} (h:Bs xs) (n:Nat):Bs (xs.drop n):=fun c hc=>h c (List.mem_of_mem_drop hc)
theorem Bs.take {xs:List Int} (h:Bs xs) (n:Nat):Bs (xs.take n):=fun c hc=>h c (List.mem_of_mem_take hc)
theorem Bs.uv (n:Nat):Bs (uv n):=by
 induction n using Nat.strongRecOn with
 | _ n ih =>
  by_cases hn:n<128
  ·rw [aAe hn]; exact Bs.mk (by omega) Bs.nil
  ·rw [zY hn]; exact Bs.mk (by omega) (ih _ (by omega))
theorem Bs.stb (s:List UInt8):Bs (stb s):=by
 intro c hc
 unfold E.stb at hc
 obtain⟨b,_,rfl⟩:=List.mem_map.1 hc
 have:=b.toNat_lt
 omega
end Go.Proofs.YtnefioccdkmegaaGreatDoor.P
