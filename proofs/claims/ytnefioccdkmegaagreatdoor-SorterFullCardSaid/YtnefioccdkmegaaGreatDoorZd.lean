/- Texts of the claim, joined: what it uses of Mcr, Drf, Mrf, Drg, Mrg, Dtx, Mtx, Va. -/
import Derived.Test.YtnefioccdkmegaaGreatDoorZc
import Derived.Test.YtnefioccdkmegaaGreatDoorProg
import Derived.Shelf.SlIter.Sorted
import Derived.Shelf.Sort.Plain
import Derived.Shelf.Slices.In.SortNone
import Derived.Shelf.Slices.CompactS
import Derived.KernelRfl
namespace Go.Proofs.YtnefioccdkmegaaGreatDoor.M
open Go Go.RowKit Go.Proofs.YtnefioccdkmegaaGreatDoor.E
set_option linter.unusedVariables false
set_option maxRecDepth 100000
set_option maxHeartbeats 4000000
set_option linter.unusedSimpArgs false
section
variable {r:World} {L:List HP} {w:World} {Z:Nat→Prop} {wz:World}
theorem aQ {a0 a1 g0 y} (G:aK a0 a1=some y) (X:SH r (obj157 Z wz g0 a0::L) w) (qz:Nat) (hZ:L[qz]?=some (zone Z wz)) :
  RetS Tryz.prog 99 #[.pointer (some ⟨g0,0,none⟩),.bool a1] w aCh y (fun y v w'=>v=.tuple #[]∧SH r (obj157 Z wz g0 y::L) w') (fun y w'=>SH r (obj157 Z wz g0 y::L) w'):=by
 refine wZ Tryz.func99 rfl Tryz.ntmps99 [(0,_),(1,_)] rfl (by simp) ?_
 intro U J Qf hQ hQn hQp
 unfold aK at G
 obtain⟨c,d,e,X⟩:=aM X
 obtain⟨a,X⟩:=(X.pk 1).unpure
 refine nz 2 J rfl fun U J=>bA J G rfl (fun b G=>?_) fun b G=>?_
 ·refine aC (x_v (v:=.agg #[]) J (qB (ps:=#[]) rfl (sB J rfl) (fun w=>by kernel_rfl)) rfl fun U J=>?_)
  refine x_v J (aNv aY9 rfl rfl (J.ev rfl)) rfl fun U J=>aRz J ?_ rfl
  replace X:=bH (x:=a0) ((SH.pure_ a X).pk 1)
  cases G
  exact hQp _ rfl _ _ J.defers X
 replace X:=bH (x:=a0) ((SH.pure_ a X).pk 1)
 cases G
 refine wp_skip (hQn _ rfl _ _ ?_)
 exact aCy Tryz.results99 J ⟨rfl,X⟩
theorem pN {a0 g0 y} (G:fL a0=some y) (X:SH r (obj157 Z wz g0 a0::L) w) (qz:Nat) (hZ:L[qz]?=some (zone Z wz)) :
  RetS Tryz.prog 119 #[.pointer (some ⟨g0,0,none⟩)] w aCh y (fun y v w'=>v=.int .u8 y.1∧SH r (obj157 Z wz g0 y.2::L) w') (fun y w'=>SH r (obj157 Z wz g0 y::L) w'):=by
 refine wZ Tryz.func119 rfl Tryz.ntmps119 [(0,_)] rfl (by simp) ?_
 intro U J Qf hQ hQn hQp
 unfold fL at G
 obtain⟨q,s,t,X⟩:=aM X
 obtain⟨c,X⟩:=(X.pk 1).unpure
 refine nz 1 J rfl fun U J=>ws fun u e=>xk 3 J rfl fun U J=>aL pW J (fun U J=>?_) rfl
 refine aH fE (X.cell 0 rfl 0 _ rfl) J (fun U J=>?_) rfl
 refine aU fE (X.rdl 1 (c.rdl qz hZ) rfl).2.1 J (fun U J=>?_) rfl
 refine xk 1 J rfl fun U J=>?_
 replace X:=bH (x:=a0) ((SH.pure_ c X).pk 1)
 refine pA G aAh J rfl (fun _ h=>aQ h X (qz+0) hZ) (fun f w X G=>?_) fun f v U w hR J G=>?_
 ·cases G
  exact hQp _ rfl _ _ J.defers X
 obtain⟨rfl,X⟩:=hR
 obtain⟨z,A,B,X⟩:=aM X
 obtain⟨a,X⟩:=(X.pk 1).unpure
 refine wn (e _ _ ?_)
 refine ws fun C g=>xk 2 J rfl fun U J=>aL pW J (fun U J=>?_) rfl
 refine aH fE (X.cell 0 rfl 0 _ rfl) J (fun U J=>?_) rfl
 obtain⟨D,d,G⟩:=bnd G
 refine fG fE sz5 (X.rdl 1 (a.rdl qz hZ) rfl) d J (fun U J=>?_) rfl
 obtain⟨cs,hV,i⟩:=el (X.rdl 1 (a.rdl qz hZ) rfl) d
 obtain rfl:=hV
 refine aH uu5 (i 0 _ rfl) J (fun U J=>?_) rfl
 refine x_m J rfl fun U J=>wn (g _ _ ?_)
 refine ws fun E j=>xk 3 J rfl fun U J=>aL pW J (fun U J=>?_) rfl
 refine aH fE (X.cell 0 rfl 0 _ rfl) J (fun U J=>?_) rfl
 obtain⟨k,b,G⟩:=bnd G
 obtain⟨l,m,n,o,p⟩:=aE9 a b
 refine x_v (v:=.slice l m n) J (aE5 o (kK fE sz5 rfl (J.ev rfl) (J.ev rfl) (tG (X.rdl 1 (a.rdl qz hZ) rfl) b).1 (tG (X.rdl 1 (a.rdl qz hZ) rfl) b).2.2.2.2.2)) rfl fun U J=>xk 1 J rfl fun U J=>aL pW J (fun U J=>?_) rfl
 refine dH 0 aDb J X rfl (fun  U w X J=>?_) rfl
 refine wn (j _ _ ?_)
 refine nz 2 J rfl fun U J=>?_
 replace X:=(SH.pure_ p X).pk 1
 replace X:=bH (x:=(⟨k⟩:S157)) X
 cases G
 refine wp_ret (hQ _ rfl _ _ ?_)
 exact lv Tryz.results119 J rfl ⟨rfl,X⟩
theorem jD {a0 a1 g0 y} (G:eS a0 a1=some y) (X:SH r (obj157 Z wz g0 a0::L) w) (qz:Nat) (hZ:L[qz]?=some (zone Z wz)) :
  RetS Tryz.prog 98 #[.pointer (some ⟨g0,0,none⟩),.int .u64 a1] w aCh y (fun y v w'=>v=.int .u64 y.1∧SH r (obj157 Z wz g0 y.2::L) w') (fun y w'=>SH r (obj157 Z wz g0 y::L) w'):=by
 refine wZ Tryz.func98 rfl Tryz.ntmps98 [(0,_),(1,_)] rfl (by simp) ?_
 intro U J Qf hQ hQn hQp
 unfold eS at G
 obtain⟨Q,R,S,X⟩:=aM X
 obtain⟨T,X⟩:=(X.pk 1).unpure
 refine nz 1 J rfl fun U J=>nz 1 J rfl fun U J=>nz 1 J rfl fun U J=>aA fun d9 e0=>?_
 obtain⟨e1,W,G⟩:=bnd G
 have a:=G
 refine aD W (fun s U w=>∃o p q,Imm Z wz (kI .u8) o p q s.1∧FR 48 [] U [(0,(pP g0)),(1,.int .u64 a1),(5,.int .u64 s.2.1),(6,.int .i64 s.2.2)]∧SH r (blk g0 157 [.slice o p q]::L) w) ⟨Q,R,S,T,J.sub _ rfl,X⟩ ?_
 intro e2 Y t G a2 b U w hLab
 obtain⟨O,u,z⟩:=Y
 replace G:dZ a1 O u z=some t:=G
 unfold dZ at G
 try dsimp only at hLab
 obtain⟨o,p,q,a3,J,X⟩:=hLab
 refine wp_seq_k fun e3 a4=>aA fun e4 a5=>ws fun e5 a6=>xk 1 J rfl fun U J=>?_
 replace X:=(SH.pure_ a3 X).pk 1
 replace X:=bH (x:=(⟨O⟩:S157)) X
 refine pA G aSd J rfl (fun _ h=>pN h X (qz+0) hZ) (fun c w X G=>?_) fun c v U w hR J G=>?_
 ·cases G
  have ht:=b _ rfl
  subst ht
  replace G:=a
  replace G:some (.inr c)=some y:=G
  cases G
  exact hQp _ rfl _ _ J.defers X
 obtain⟨rfl,X⟩:=hR
 obtain⟨e6,e7,e8,X⟩:=aM X
 obtain⟨A,X⟩:=(X.pk 1).unpure
 refine x_m J rfl fun U J=>wn (a6 _ _ ?_)
 refine wp_seq_k fun a7 a8=>?_
 have hj1:∀f,eB a1 u z c f=some t→∀l m n (g:Imm Z wz (kI .u8) l m n f) U w,FR 48 [] U [(0,(pP g0)),(1,.int .u64 a1),(5,.int .u64 u),(6,.int .i64 z),(7,.int .u8 c.1)]→SH r (blk g0 157 [.slice l m n]::L) w→a7 U w:=by
  intro f G l m n g U w J X
  unfold eB at G
  refine a8 _ _ (ws fun e9 a9=>?_)
  refine xk 2 J rfl fun U J=>x_l G J rfl fun f1 _ U J G=>gQ G J (aY uu5 mE rfl (J.ev rfl)) rfl fun f2 _ U J G=>x_m J rfl fun U J=>x_l G J rfl fun f3 _ U J G=>?_
  obtain⟨b1,G⟩:=aB G
  refine gQ G J (aGj rfl (J.ev rfl) (J.ev rfl) b1) rfl fun f4 _ U J G=>x_l G J rfl fun B _ U J G=>x_m J rfl fun U J=>wn (a9 _ _ ?_)
  refine nz 2 J rfl fun U J=>bA J G rfl (fun b2 G=>?_) fun b2 G=>?_
  ·refine wp_seq_k fun b3 b4=>?_
   have hj2:∀i,iO B i=some t→∀C D E (P:Imm Z wz (kI .u8) C D E i) U w,FR 48 [] U [(0,(pP g0)),(5,.int .u64 B)]→SH r (blk g0 157 [.slice C D E]::L) w→b3 U w:=by
    intro i G C D E P U w J X
    unfold iO at G
    refine b4 _ _ (nz 2 J rfl fun U J=>?_)
    replace X:=(SH.pure_ P X).pk 1
    replace X:=bH (x:=(⟨i⟩:S157)) X
    cases G
    refine wp_ret ?_
    have ht:=b _ rfl
    subst ht
    replace G:=a
    replace G:some (.inl (B,(⟨i⟩:S157)))=some y:=G
    cases G
    refine hQ _ rfl _ _ (lv Tryz.results98 J rfl ?_)
    exact⟨rfl,X⟩
   refine aC (xk 5 J rfl fun U J=>?_)
   refine bcG G (fun d G=>?_) fun d G=>?_
   ·refine xg 3 d J rfl rfl fun U J=>bcG G (fun j G=>?_) fun j G=>?_
    ·refine xg 2 j J rfl rfl fun U J=>aJ d J ?_ rfl
     refine xg 1 j J rfl rfl fun U J=>xg 1 d J rfl rfl fun U J=>?_
     replace X:=(SH.pure_ g X).pk 1
     replace X:=bH (x:=(⟨f⟩:S157)) X
     refine pA G aAh J rfl (fun _ h=>aQ h X (qz+0) hZ) (fun F w X G=>?_) fun F v U w hR J G=>?_
     ·cases G
      have ht:=b _ rfl
      subst ht
      replace G:=a
      replace G:some (.inr F)=some y:=G
      cases G
      exact hQp _ rfl _ _ J.defers X
     obtain⟨rfl,X⟩:=hR
     obtain⟨b5,b6,b7,X⟩:=aM X
     obtain⟨b8,X⟩:=(X.pk 1).unpure
     exact wpList_nil (hj2 F.f0 G b5 b6 b7 b8 U w (J.sub _ rfl) X)
    refine xg 2 j J rfl rfl fun U J=>aJ d J ?_ rfl
    refine xg 1 j J rfl rfl fun U J=>xg 1 d J rfl rfl fun U J=>?_
    replace X:=(SH.pure_ g X).pk 1
    replace X:=bH (x:=(⟨f⟩:S157)) X
    refine pA G aAh J rfl (fun _ h=>aQ h X (qz+0) hZ) (fun H w X G=>?_) fun H v U w hR J G=>?_
    ·cases G
     have ht:=b _ rfl
     subst ht
     replace G:=a
     replace G:some (.inr H)=some y:=G
     cases G
     exact hQp _ rfl _ _ J.defers X
    obtain⟨rfl,X⟩:=hR
    obtain⟨b9,c0,c1,X⟩:=aM X
    obtain⟨c2,X⟩:=(X.pk 1).unpure
    exact wpList_nil (hj2 H.f0 G b9 c0 c1 c2 U w (J.sub _ rfl) X)
   refine xg 7 d J rfl rfl fun U J=>?_
   replace X:=(SH.pure_ g X).pk 1
   replace X:=bH (x:=(⟨f⟩:S157)) X
   refine pA G aAh J rfl (fun _ h=>aQ h X (qz+0) hZ) (fun I w X G=>?_) fun I v U w hR J G=>?_
   ·cases G
    have ht:=b _ rfl
    subst ht
    replace G:=a
    replace G:some (.inr I)=some y:=G
    cases G
    exact hQp _ rfl _ _ J.defers X
   obtain⟨rfl,X⟩:=hR
   obtain⟨c3,c4,c5,X⟩:=aM X
   obtain⟨c6,X⟩:=(X.pk 1).unpure
   exact wpList_nil (hj2 I.f0 G c3 c4 c5 c6 U w (J.sub _ rfl) X)
  refine wp_skip (a5 _ _ ?_)
  refine a4 _ _ (aC ?_)
  refine x_m J rfl fun U J=>x_l G J rfl fun f5 _ U J G=>x_m J rfl fun U J=>wpList_nil ?_
  cases G
  exact⟨_,a2 _ rfl,l,m,n,g,J.sub _ rfl,X⟩
 refine aC (xk 4 J rfl fun U J=>?_)
 refine bcG G (fun e G=>?_) fun e G=>?_
 ·refine xg 7 e J rfl rfl fun U J=>?_
  replace X:=bH (x:=c.2) ((SH.pure_ A X).pk 1)
  refine pA G aAh J rfl (fun _ h=>aQ h X (qz+0) hZ) (fun K w X G=>?_) fun K v U w hR J G=>?_
  ·cases G
   have ht:=b _ rfl
   subst ht
   replace G:=a
   replace G:some (.inr K)=some y:=G
   cases G
   exact hQp _ rfl _ _ J.defers X
  obtain⟨rfl,X⟩:=hR
  obtain⟨c7,c8,c9,X⟩:=aM X
  obtain⟨d0,X⟩:=(X.pk 1).unpure
  exact wpList_nil (hj1 K.f0 G c7 c8 c9 d0 U w (J.sub _ rfl) X)
 refine xg 3 e J rfl rfl fun U J=>bcG G (fun k G=>?_) fun k G=>?_
 ·refine xg 2 k J rfl rfl fun U J=>aJ e J ?_ rfl
  refine xg 1 k J rfl rfl fun U J=>xg 1 e J rfl rfl fun U J=>?_
  replace X:=bH (x:=c.2) ((SH.pure_ A X).pk 1)
  refine pA G aAh J rfl (fun _ h=>aQ h X (qz+0) hZ) (fun M w X G=>?_) fun M v U w hR J G=>?_
  ·cases G
   have ht:=b _ rfl
   subst ht
   replace G:=a
   replace G:some (.inr M)=some y:=G
   cases G
   exact hQp _ rfl _ _ J.defers X
  obtain⟨rfl,X⟩:=hR
  obtain⟨d1,d2,d3,X⟩:=aM X
  obtain⟨d4,X⟩:=(X.pk 1).unpure
  exact wpList_nil (hj1 M.f0 G d1 d2 d3 d4 U w (J.sub _ rfl) X)
 refine xg 2 k J rfl rfl fun U J=>aJ e J ?_ rfl
 refine xg 1 k J rfl rfl fun U J=>xg 1 e J rfl rfl fun U J=>?_
 replace X:=bH (x:=c.2) ((SH.pure_ A X).pk 1)
 refine pA G aAh J rfl (fun _ h=>aQ h X (qz+0) hZ) (fun N w X G=>?_) fun N v U w hR J G=>?_
 ·cases G
  have ht:=b _ rfl
  subst ht
  replace G:=a
  replace G:some (.inr N)=some y:=G
  cases G
  exact hQp _ rfl _ _ J.defers X
 obtain⟨rfl,X⟩:=hR
 obtain⟨d5,d6,d7,X⟩:=aM X
 obtain⟨d8,X⟩:=(X.pk 1).unpure
 exact wpList_nil (hj1 N.f0 G d5 d6 d7 d8 U w (J.sub _ rfl) X)
theorem mQ {a0 g0 y} (G:fV a0=some y) (X:SH r (obj157 Z wz g0 a0::L) w) (qz:Nat) (hZ:L[qz]?=some (zone Z wz)) :
  RetS Tryz.prog 121 #[.pointer (some ⟨g0,0,none⟩)] w aCh y (fun y v w'=>v=.int .i64 y.1∧SH r (obj157 Z wz g0 y.2::L) w') (fun y w'=>SH r (obj157 Z wz g0 y::L) w'):=by
 refine wZ Tryz.func121 rfl Tryz.ntmps121 [(0,_)] rfl (by simp) ?_
 intro U J Qf hQ hQn hQp
 unfold fV at G
 refine nz 1 J rfl fun U J=>ws fun d a=>xk 1 J rfl fun U J=>pA G aQb J rfl (fun _ h=>jD h X (qz+0) hZ) (fun b w X G=>?_) fun b v U w hR J G=>?_
 ·cases G
  exact hQp _ rfl _ _ J.defers X
 obtain⟨rfl,X⟩:=hR
 refine x_m J rfl fun U J=>wn (a _ _ ?_)
 refine ws fun e c=>xk 1 J rfl fun U J=>gQ G J (qV rfl (J.ev rfl) (J.ev rfl) (by decide)) rfl fun f _ U J G=>gQ G J (aY mE uu2 rfl (J.ev rfl)) rfl fun g _ U J G=>x_m J rfl fun U J=>x_l G J rfl fun i _ U J G=>gQ G J (aY mE uu2 rfl (J.ev rfl)) rfl fun j _ U J G=>x_v J (aV5 rfl (J.ev rfl)) rfl fun U J=>x_l G J rfl fun k _ U J G=>x_m J rfl fun U J=>wn (c _ _ ?_)
 cases G
 refine wp_ret (hQ _ rfl _ _ ?_)
 exact lv Tryz.results121 J rfl ⟨rfl,X⟩
theorem uK {a0 a1 g0 y} (G:iT a0 a1=some y) (X:SH r (obj157 Z wz g0 a0::L) w) (qz:Nat) (hZ:L[qz]?=some (zone Z wz)) :
  RetS Tryz.prog 77 #[.pointer (some ⟨g0,0,none⟩),.int .i64 a1] w aCh y (fun y v w'=>v=str y.1∧SH r (obj157 Z wz g0 y.2::L) w') (fun y w'=>SH r (obj157 Z wz g0 y::L) w'):=by
 refine wZ Tryz.func77 rfl Tryz.ntmps77 [(0,_),(1,_)] rfl (by simp) ?_
 intro U J Qf hQ hQn hQp
 unfold iT at G
 refine nz 1 J rfl fun U J=>ws fun B f=>xk 2 J rfl fun U J=>gQ G J (aY uu3 mE rfl (J.ev rfl)) rfl fun C _ U J G=>pA G aQb J rfl (fun _ h=>jD h X (qz+0) hZ) (fun d w X G=>?_) fun d v U w hR J G=>?_
 ·cases G
  exact hQp _ rfl _ _ J.defers X
 obtain⟨rfl,X⟩:=hR
 obtain⟨D,E,F,X⟩:=aM X
 obtain⟨e,X⟩:=(X.pk 1).unpure
 refine x_m J rfl fun U J=>wn (f _ _ ?_)
 refine ws fun H g=>xk 4 J rfl fun U J=>aL pW J (fun U J=>?_) rfl
 refine aH fE (X.cell 0 rfl 0 _ rfl) J (fun U J=>?_) rfl
 refine aU fE (X.rdl 1 (e.rdl qz hZ) rfl).2.1 J (fun U J=>?_) rfl
 refine gQ G J (aY uu3 mE rfl (J.ev rfl)) rfl fun I _ U J G=>xk 1 J rfl fun U J=>?_
 replace X:=bH (x:=d.2) ((SH.pure_ e X).pk 1)
 refine pA G aAh J rfl (fun _ h=>aQ h X (qz+0) hZ) (fun i w X G=>?_) fun i v U w hR J G=>?_
 ·cases G
  exact hQp _ rfl _ _ J.defers X
 obtain⟨rfl,X⟩:=hR
 obtain⟨K,M,N,X⟩:=aM X
 obtain⟨a,X⟩:=(X.pk 1).unpure
 refine wn (g _ _ ?_)
 refine ws fun O j=>xk 2 J rfl fun U J=>aL pW J (fun U J=>?_) rfl
 refine aH fE (X.cell 0 rfl 0 _ rfl) J (fun U J=>?_) rfl
 refine x_m J rfl fun U J=>?_
 obtain⟨P,b,G⟩:=bnd G
 obtain⟨k,l,m,n,o⟩:=aQr a b
 refine x_v (v:=.slice k l m) J (aE5 n (wD fE sz5 rfl (J.ev rfl) (J.ev rfl) (tG (X.rdl 1 (a.rdl qz hZ) rfl) b).2.2.2.2.1 (tG (X.rdl 1 (a.rdl qz hZ) rfl) b).2.2.1)) rfl fun U J=>aR6 fE uu5 uu9 (X.rdl 1 (o.rdl qz hZ) rfl) J (fun U J=>?_) rfl
 refine x_m J rfl fun U J=>wn (j _ _ ?_)
 refine ws fun Q p=>xk 3 J rfl fun U J=>aL pW J (fun U J=>?_) rfl
 refine aH fE (X.cell 0 rfl 0 _ rfl) J (fun U J=>?_) rfl
 refine x_m J rfl fun U J=>?_
 obtain⟨q,c,G⟩:=bnd G
 obtain⟨s,t,u,z,A⟩:=aE9 a c
 refine x_v (v:=.slice s t u) J (aE5 z (kK fE sz5 rfl (J.ev rfl) (J.ev rfl) (tG (X.rdl 1 (a.rdl qz hZ) rfl) c).1 (tG (X.rdl 1 (a.rdl qz hZ) rfl) c).2.2.2.2.2)) rfl fun U J=>xk 1 J rfl fun U J=>aL pW J (fun U J=>?_) rfl
 refine dH 0 aDb J X rfl (fun  U w X J=>?_) rfl
 refine wn (p _ _ ?_)
 refine nz 2 J rfl fun U J=>?_
 replace X:=(SH.pure_ A X).pk 1
 replace X:=bH (x:=(⟨q⟩:S157)) X
 cases G
 refine wp_ret (hQ _ rfl _ _ ?_)
 exact lv Tryz.results77 J rfl ⟨rfl,X⟩
theorem aA5 {a0 K a y} (G:lW a0 K=some y) (X:SH r (obj157 Z wz a K::L) w) (qz:Nat) (hZ:L[qz]?=some (zone Z wz)) :
  RetS Tryz.prog 120 #[.int .i64 a0,.func (.func 121) #[.pointer (some ⟨a,0,none⟩)] #[]] w aCh y (fun y v w'=>∃ (B0:Option Addr) (m0:Nat) (d0:Nat),v=.slice B0 m0 d0∧SH r (own (kI .i64) 2 B0 m0 d0 y.1::obj157 Z wz a y.2::L) w') (fun y w'=>SH r (obj157 Z wz a y::L) w'):=by
 refine wZ Tryz.func120 rfl Tryz.ntmps120 [(0,_),(1,_)] rfl (by simp) ?_
 intro U J Qf hQ hQn hQp
 unfold lW at G
 obtain⟨S,T,W,X⟩:=aM X
 obtain⟨Y,X⟩:=(X.pk 1).unpure
 refine nz 1 J rfl fun U J=>nz 1 J rfl fun U J=>wp_seq_k fun c4 a1=>nz 2 J rfl fun U J=>aA fun M a2=>?_
 have hb1:∀g D,pC g D=some y→∀E F H i j k (N:Imm Z wz (kI .u8) E F H g) U w,FR 16 [] U [(1,.func (.func 121) #[.pointer (some ⟨a,0,none⟩)] #[]),(5,.slice i j k)]→SH r (blk a 157 [.slice E F H]::own (kI .i64) 2 i j k D::L) w→M U w:=by
  intro g D G E F H i j k N U w J X
  unfold pC at G
  refine a2 _ _ (a1 _ _ ?_)
  refine nz 2 J rfl fun U J=>?_
  replace X:=(SH.pure_ N X).pk 1
  replace X:=(bH (x:=(⟨g⟩:S157)) X).pk 1
  cases G
  refine wp_ret (hQ _ rfl _ _ ?_)
  exact lv Tryz.results120 J rfl ⟨i,j,k,rfl,X⟩
 obtain⟨a3,a4,G⟩:=bnd G
 have a5:=G
 have a6:∀c f,(.inl (c,f))=a3→∀l m n o p q (O:Imm Z wz (kI .u8) l m n c) U w,FR 16 [] U [(1,.func (.func 121) #[.pointer (some ⟨a,0,none⟩)] #[]),(5,.slice o p q)]→SH r (blk a 157 [.slice l m n]::own (kI .i64) 2 o p q f::L) w→M U w:=by
  intro c f ht l m n o p q O U w J X
  subst ht
  replace G:nV c f=some y:=G
  unfold nV at G
  exact hb1 c f G l m n o p q O U w (J.sub _ rfl) X
 replace X:=(SH.nil_own (d:=(kI .i64)) (e:=2) X).pk 1
 refine aD a4 (fun s U w=>∃t u z A B C,Imm Z wz (kI .u8) t u z s.1∧FR 16 [] U [(1,.func (.func 121) #[.pointer (some ⟨a,0,none⟩)] #[]),(5,.slice A B C),(6,.int .i64 a0),(7,.int .i64 s.2.2)]∧SH r (blk a 157 [.slice t u z]::own (kI .i64) 2 A B C s.2.1::L) w) ⟨S,T,W,none,0,0,Y,J.sub _ rfl,X⟩ ?_
 intro c5 a7 a8 G a9 P U w hLab
 obtain⟨I,Q,b1⟩:=a7
 replace G:cU a0 I Q b1=some a8:=G
 unfold cU at G
 try dsimp only at hLab
 obtain⟨t,u,z,A,B,C,R,J,X⟩:=hLab
 refine nz 1 J rfl fun U J=>wp_seq_k fun c6 b2=>bA J G rfl (fun b3 G=>?_) fun b3 G=>?_
 ·refine wp_skip (b2 _ _ ?_)
  refine wp_seq_k fun c7 b4=>aA fun c8 b5=>aC (xk 2 J rfl fun U J=>?_)
  replace X:=(SH.pure_ R X).pk 1
  replace X:=bH (x:=(⟨I⟩:S157)) X
  refine pA G aN1 J rfl (fun _ h=>mQ h X (qz+1) hZ) (fun b w X G=>?_) fun b v U w hR J G=>?_
  ·replace X:=X.drop 1
   cases G
   have ht:=P _ rfl
   subst ht
   replace G:=a5
   replace G:some (.inr b)=some y:=G
   cases G
   exact hQp _ rfl _ _ J.defers X
  obtain⟨rfl,X⟩:=hR
  obtain⟨b6,b7,b8,X⟩:=aM X
  obtain⟨b9,X⟩:=(X.pk 1).unpure
  refine iM (d:=(kI .i64)) (e:=2) (ps:=#[(0,.int .i64 b.1)]) (cells:=[.int .i64 b.1]) (xs:=[b.1]) (fun w=>by kernel_rfl) rfl ⟨[.int .i64 b.1],_,rfl,rfl,rfl⟩ J X (fun c9 U w X J=>?_) rfl
  obtain⟨c0,G⟩:=aB G
  have hr:=X.rd 0 rfl
  refine gH 2 kX bM J X hr.1 hr.2.1 c0 rfl (fun c1 c2 c3 U w X J=>?_) rfl
  refine x_m J rfl fun U J=>wpList_nil (b5 _ _ ?_)
  refine b4 _ _ (aC ?_)
  refine x_l G J rfl fun d1 _ U J G=>x_m J rfl fun U J=>wpList_nil ?_
  replace X:=X.drop 1 |>.pk 1
  cases G
  exact⟨_,a9 _ rfl,b6,b7,b8,c1,c2,c3,b9,J.sub _ rfl,X⟩
 cases G
 exact wp_exit (a6 I Q (P _ rfl) t u z A B C R U w (J.sub _ rfl) X)
theorem aEg {a0 a1 g0 y} (G:qW a0 a1=some y) (X:SH r (obj157 Z wz g0 a0::L) w) (qz:Nat) (hZ:L[qz]?=some (zone Z wz)) :
  RetS Tryz.prog 122 #[.pointer (some ⟨g0,0,none⟩),.int .i64 a1] w aCh y (fun y v w'=>∃ (B0:Option Addr) (m0:Nat) (d0:Nat),v=.slice B0 m0 d0∧SH r (own (kI .i64) 2 B0 m0 d0 y.1::obj157 Z wz g0 y.2::L) w') (fun y w'=>SH r (obj157 Z wz g0 y::L) w'):=by
 refine wZ Tryz.func122 rfl Tryz.ntmps122 [(0,_),(1,_)] rfl (by simp) ?_
 intro U J Qf hQ hQn hQp
 unfold qW at G
 refine nz 1 J rfl fun U J=>ws fun j3 c0=>xk 1 J rfl fun U J=>pA G aN1 J rfl (fun _ h=>mQ h X (qz+0) hZ) (fun b w X G=>?_) fun b v U w hR J G=>?_
 ·cases G
  exact hQp _ rfl _ _ J.defers X
 obtain⟨rfl,X⟩:=hR
 refine x_m J rfl fun U J=>pA G aSd J rfl (fun _ h=>pN h X (qz+0) hZ) (fun S w X G=>?_) fun S v U w hR J G=>?_
 ·cases G
  exact hQp _ rfl _ _ J.defers X
 obtain⟨rfl,X⟩:=hR
 obtain⟨j4,j5,j6,X⟩:=aM X
 obtain⟨T,X⟩:=(X.pk 1).unpure
 refine gQ G J (aY uu5 uu3 rfl (J.ev rfl)) rfl fun f _ U J G=>nk 2 J rfl fun U J=>c0 _ _ (wp_seq_k fun c1 c2=>?_)
 have hj1:∀W,mZ a1 b f W=some y→∀z A B (Y:Imm Z wz (kI .u8) z A B W) U w,FR 98 [] U [(0,(pP g0)),(1,.int .i64 a1),(5,.int .i64 b.1),(6,.int .i64 f)]→SH r (blk g0 157 [.slice z A B]::L) w→c1 U w:=by
  intro W G z A B Y U w J X
  unfold mZ at G
  refine c2 _ _ (ws fun j7 c3=>?_)
  refine xk 1 J rfl fun U J=>?_
  obtain⟨c4,G⟩:=aB G
  refine aF7 (d:=(kI .i64)) (bytes:=8) 0 kX rfl bM c4 J X (fun a U w X J=>?_) rfl
  refine x_m J rfl fun U J=>wn (c3 _ _ ?_)
  refine wp_seq_k fun j8 c5=>ws fun j9 c6=>xk 2 J rfl fun U J=>aL pW J (fun U J=>?_) rfl
  refine aH fE (X.cell 1 rfl 0 _ rfl) J (fun U J=>?_) rfl
  refine aU fE (X.rdl 2 (Y.rdl qz hZ) rfl).2.1 J (fun U J=>?_) rfl
  refine x_l G J rfl fun a2 _ U J G=>x_m J rfl fun U J=>wn (c6 _ _ ?_)
  refine aA fun a8 c7=>?_
  have hb1:∀a3 k,pS b a3 k=some y→∀g i j (c8:Imm Z wz (kI .u8) g i j a3) U w,FR 98 [] U [(0,(pP g0)),(5,.int .i64 b.1),(7,.slice (some ⟨a,0,none⟩) a1.toNat a1.toNat)]→SH r (blk g0 157 [.slice g i j]::own (kI .i64) 2 (some ⟨a,0,none⟩) a1.toNat a1.toNat k::L) w→a8 U w:=by
   intro a3 k G g i j c8 U w J X
   unfold pS at G
   refine c7 _ _ (c5 _ _ ?_)
   refine wp_seq_k fun k0 c9=>ws fun k1 d1=>xk 1 J rfl fun U J=>aU bM (X.rd 1 rfl).2.1 J (fun U J=>?_) rfl
   refine x_m J rfl fun U J=>wn (d1 _ _ ?_)
   refine aA fun a9 d2=>?_
   have hb2:∀a4,uE a4=some y→∀U w,FR 98 [] U [(0,(pP g0)),(7,.slice (some ⟨a,0,none⟩) a1.toNat a1.toNat)]→SH r (blk g0 157 [.slice g i j]::own (kI .i64) 2 (some ⟨a,0,none⟩) a1.toNat a1.toNat a4::L) w→a9 U w:=by
    intro a4 G U w J X
    unfold uE at G
    refine d2 _ _ (c9 _ _ ?_)
    refine ws fun k2 d3=>xk 2 J rfl fun U J=>aL pW J (fun U J=>?_) rfl
    refine dH 0 aDb J X rfl (fun  U w X J=>?_) rfl
    refine wn (d3 _ _ ?_)
    refine nz 2 J rfl fun U J=>?_
    replace X:=(SH.pure_ (Imm.nil:Imm Z wz (kI .u8) none 0 0 []) X).pk 1
    replace X:=(bH (x:=(⟨[]⟩:S157)) X).pk 1
    cases G
    refine wp_ret (hQ _ rfl _ _ ?_)
    exact lv Tryz.results122 J rfl ⟨some ⟨a,0,none⟩,a1.toNat,a1.toNat,rfl,X⟩
   obtain⟨d4,d5,G⟩:=bnd G
   have d6:∀l,(l)=d4→∀U w,FR 98 [] U [(0,(pP g0)),(7,.slice (some ⟨a,0,none⟩) a1.toNat a1.toNat)]→SH r (blk g0 157 [.slice g i j]::own (kI .i64) 2 (some ⟨a,0,none⟩) a1.toNat a1.toNat l::L) w→a9 U w:=by
    intro l ht U w J X
    subst ht
    replace G:rK l=some y:=G
    unfold rK at G
    exact hb2 l G U w (J.sub _ rfl) X
   refine aD d5 (fun s U w=>FR 98 [] U [(0,(pP g0)),(5,.int .i64 b.1),(7,.slice (some ⟨a,0,none⟩) a1.toNat a1.toNat),(82,.int .i64 (k.length:Int)),(83,.int .i64 s.2)]∧SH r (blk g0 157 [.slice g i j]::own (kI .i64) 2 (some ⟨a,0,none⟩) a1.toNat a1.toNat s.1::L) w) ⟨J.sub _ rfl,X⟩ ?_
   intro k3 d7 d8 G d9 e0 U w hLab
   obtain⟨b1,e1⟩:=d7
   replace G:fQ b k b1 e1=some d8:=G
   unfold fQ at G
   try dsimp only at hLab
   obtain⟨J,X⟩:=hLab
   refine nz 1 J rfl fun U J=>wp_seq_k fun k4 e2=>bA J G rfl (fun e3 G=>?_) fun e3 G=>?_
   ·refine wp_skip (e2 _ _ ?_)
    refine wp_seq_k fun k5 e4=>aA fun k6 e5=>nz 2 J rfl fun U J=>aC (xk 2 J rfl fun U J=>?_)
    obtain⟨k7,C,G⟩:=bnd G
    refine fG bM sz2 (X.rd 1 rfl) C J (fun U J=>?_) rfl
    obtain⟨cs,hV,e6⟩:=el (X.rd 1 rfl) C
    obtain rfl:=hV
    refine aH uu2 (e6 0 _ rfl) J (fun U J=>?_) rfl
    refine x_m J rfl fun U J=>x_l G J rfl fun b2 _ U J G=>fG bM sz2 (X.rd 1 rfl) C J (fun U J=>?_) rfl
    refine aFl (z':=b2) (off:=0) (vs:=[.int .i64 b2]) 1 sz2 J X rfl (dQ C).2.2 (fun c h=>by cases h; rfl) (fun  U w X J=>?_) rfl rfl rfl rfl rfl rfl rfl rfl
    refine wpList_nil (e5 _ _ ?_)
    refine e4 _ _ (aC ?_)
    refine x_l G J rfl fun k8 _ U J G=>x_m J rfl fun U J=>wpList_nil ?_
    replace X:=X.pk 1
    cases G
    exact⟨_,d9 _ rfl,J.sub _ rfl,X⟩
   cases G
   exact wp_exit (d6 b1 (e0 _ rfl) U w (J.sub _ rfl) X)
  obtain⟨e7,e8,G⟩:=bnd G
  have e9:=G
  have f1:∀m n,(.inl (m,n))=e7→∀D E F (b3:Imm Z wz (kI .u8) D E F m) U w,FR 98 [] U [(0,(pP g0)),(5,.int .i64 b.1),(7,.slice (some ⟨a,0,none⟩) a1.toNat a1.toNat)]→SH r (blk g0 157 [.slice D E F]::own (kI .i64) 2 (some ⟨a,0,none⟩) a1.toNat a1.toNat n::L) w→a8 U w:=by
   intro m n ht D E F b3 U w J X
   subst ht
   replace G:nT b m n=some y:=G
   unfold nT at G
   exact hb1 m n G D E F b3 U w (J.sub _ rfl) X
  replace X:=X.pk 1
  refine aD e8 (fun s U w=>∃o p q,Imm Z wz (kI .u8) o p q s.1∧FR 98 [] U [(0,(pP g0)),(1,.int .i64 a1),(5,.int .i64 b.1),(6,.int .i64 f),(7,.slice (some ⟨a,0,none⟩) a1.toNat a1.toNat),(40,.int .i64 a2),(41,.int .i64 s.2.2)]∧SH r (blk g0 157 [.slice o p q]::own (kI .i64) 2 (some ⟨a,0,none⟩) a1.toNat a1.toNat s.2.1::L) w) ⟨z,A,B,Y,J.sub _ rfl,X⟩ ?_
  intro k9 f2 b4 G f3 b5 U w hLab
  obtain⟨H,I,t⟩:=f2
  replace G:gP a1 f a2 H I t=some b4:=G
  unfold gP at G
  try dsimp only at hLab
  obtain⟨o,p,q,u,J,X⟩:=hLab
  refine nz 1 J rfl fun U J=>wp_seq_k fun l0 f4=>bA J G rfl (fun f5 G=>?_) fun f5 G=>?_
  ·refine wp_skip (f4 _ _ ?_)
   refine wp_seq_k fun l1 f6=>aA fun f7 f8=>?_
   have hb3:∀a5 a6,kO t a5 a6=some b4→∀M N O (b6:Imm Z wz (kI .u8) M N O a5) U w,FR 98 [] U [(0,(pP g0)),(1,.int .i64 a1),(5,.int .i64 b.1),(6,.int .i64 f),(7,.slice (some ⟨a,0,none⟩) a1.toNat a1.toNat),(40,.int .i64 a2),(41,.int .i64 t)]→SH r (blk g0 157 [.slice M N O]::own (kI .i64) 2 (some ⟨a,0,none⟩) a1.toNat a1.toNat a6::L) w→f7 U w:=by
    intro a5 a6 G M N O b6 U w J X
    unfold kO at G
    refine f8 _ _ (f6 _ _ ?_)
    refine aC (x_l G J rfl fun l2 _ U J G=>?_)
    refine x_m J rfl fun U J=>wpList_nil ?_
    cases G
    exact⟨_,f3 _ rfl,M,N,O,b6,J.sub _ rfl,X⟩
   refine nz 2 J rfl fun U J=>ws fun l3 f9=>xk 2 J rfl fun U J=>aL pW J (fun U J=>?_) rfl
   refine aH fE (X.cell 0 rfl 0 _ rfl) J (fun U J=>?_) rfl
   refine x_m J rfl fun U J=>gQ G J (aGa rfl (J.ev rfl) (J.ev rfl) (by decide)) rfl fun l4 _ U J G=>?_
   obtain⟨l5,b7,G⟩:=bnd G
   refine fG fE sz5 (X.rdl 2 (u.rdl qz hZ) rfl) b7 J (fun U J=>?_) rfl
   obtain⟨cs,hV,g1⟩:=el (X.rdl 2 (u.rdl qz hZ) rfl) b7
   obtain rfl:=hV
   refine aH uu5 (g1 0 _ rfl) J (fun U J=>?_) rfl
   refine x_m J rfl fun U J=>gQ G J (aHg rfl (J.ev rfl) (J.ev rfl) (by decide)) rfl fun l6 _ U J G=>?_
   obtain⟨g2,G⟩:=aB G
   refine gQ G J (qV rfl (J.ev rfl) (J.ev rfl) g2) rfl fun l7 _ U J G=>gQ G J (aY uu5 mE rfl (J.ev rfl)) rfl fun l8 _ U J G=>x_l G J rfl fun g3 _ U J G=>x_m J rfl fun U J=>wn (f9 _ _ ?_)
   refine wp_seq_k fun l9 g4=>ws fun m1 g5=>xk 3 J rfl fun U J=>x_l G J rfl fun m2 _ U J G=>nk 1 J rfl fun U J=>g5 _ _ (bA J G rfl (fun g6 G=>?_) fun g6 G=>?_)
   ·refine ws fun m3 g7=>xk 3 J rfl fun U J=>?_
    replace X:=(SH.pure_ u X).pk 1
    replace X:=bH (x:=(⟨H⟩:S157)) X
    refine pA G aAh J rfl (fun _ h=>aQ h X (qz+1) hZ) (fun a7 w X G=>?_) fun a7 v U w hR J G=>?_
    ·replace X:=X.drop 1
     cases G
     have ht:=b5 _ rfl
     subst ht
     replace G:=e9
     replace G:some (.inr a7)=some y:=G
     cases G
     exact hQp _ rfl _ _ J.defers X
    obtain⟨rfl,X⟩:=hR
    obtain⟨g8,g9,h0,X⟩:=aM X
    obtain⟨h1,X⟩:=(X.pk 1).unpure
    refine wn (g7 _ _ ?_)
    exact wp_exit (hb3 a7.f0 I G g8 g9 h0 h1 U w (J.sub _ rfl) X)
   refine wp_skip (g4 _ _ ?_)
   refine cP [0,0,0,6,15,31,0,0,0,384,960,1984,4095,8191,16383] [14] rfl J X (by kernel_rfl) (by kernel_rfl) (by kernel_rfl) (by kernel_rfl) fun w X=>?_
   obtain⟨h2,G⟩:=aB G
   obtain⟨P,h3,G⟩:=nO G
   obtain⟨h4,Q,G⟩:=bnd G
   obtain⟨cs,hV,h5⟩:=el (X.rd 1 rfl) Q
   obtain rfl:=hV
   obtain⟨h6,G⟩:=aB G
   obtain⟨h7,h8,G⟩:=nO G
   obtain⟨h9,G⟩:=aB G
   obtain⟨i0,i1,G⟩:=nO G
   obtain⟨i2,i3,G⟩:=nO G
   obtain⟨R,i4,G⟩:=nO G
   refine⟨[(0,.slice (some ⟨a,0,none⟩) a1.toNat a1.toNat),(1,.int .i64 t),(2,.int .i64 f),(3,.int .i64 P),(4,.pointer (some (ea (some ⟨a,0,none⟩) (P.toNat * 1)))),(5,.int .i64 h4),(6,.int .u64 g3),(7,.int .i64 t),(8,.int .i64 f),(9,.int .i64 h7),(10,.int .u64 i0),(11,.int .i64 i2),(12,.int .i64 R),(13,.pointer (some (ea (some ⟨a,0,none⟩) (P.toNat * 1))))],?_⟩
   refine dF [0,1,2,3,4,5,6,7,8,9,10,11,12,13] [14] (by kernel_rfl) ⟨pm rfl,pm rfl,pm rfl,pt [(67,_),(68,_)] rfl fun U J=>kQ h3 (aGa rfl (J.ev rfl) (J.ev rfl) h2),pt [(66,_),(69,_)] rfl (fun U J=>fH bM sz2 (X.rd 1 rfl) Q J rfl rfl rfl),pt [(70,_)] rfl (fun U J=>cM uu2 (h5 0 _ rfl) J rfl rfl rfl),pm rfl,pm rfl,pm rfl,pt [(73,_),(74,_)] rfl fun U J=>kQ h8 (aHg rfl (J.ev rfl) (J.ev rfl) h6),pt [(72,_),(75,_)] rfl fun U J=>kQ i1 (aGj rfl (J.ev rfl) (J.ev rfl) h9),pt [(76,_)] rfl fun U J=>kQ i3 (aY mE uu2 rfl (J.ev rfl)),pt [(71,_),(77,_)] rfl fun U J=>kQ i4 (aN8 rfl (J.ev rfl) (J.ev rfl)),pt [(66,_),(69,_)] rfl (fun U J=>fH bM sz2 (X.rd 1 rfl) Q J rfl rfl rfl),trivial⟩ ⟨et [(78,_),(79,_)] rfl (fun U J K hK=>?_),trivial⟩
   refine xD (z':=R) (off:=0) (vs:=[.int .i64 R]) 1 sz2 J X rfl (dQ Q).2.2 (fun c h=>by cases h; rfl) (fun  w X=>?_) rfl rfl rfl rfl rfl rfl
   refine hK _ [] _ rfl (gK [] (by kernel_rfl) trivial ⟨by kernel_rfl,by kernel_rfl⟩ [(0,_),(1,_),(5,_),(6,_),(7,_),(40,_),(41,_)] rfl (fun U J=>?_))
   replace X:=X.pk 1
   exact hb3 H (I.set P.toNat R) G o p q u U w (J.sub _ rfl) X
  cases G
  exact wp_exit (f1 H I (b5 _ rfl) o p q u U w (J.sub _ rfl) X)
 refine aC (xk 4 J rfl fun U J=>?_)
 refine bcG G (fun e G=>?_) fun e G=>?_
 ·refine xg 2 e J rfl rfl fun U J=>aJ e J ?_ rfl
  refine aL pW J (fun U J=>?_) rfl
  refine aJ e J ?_ rfl
  refine aH fE (X.cell 0 rfl 0 _ rfl) J (fun U J=>?_) rfl
  refine aJ e J ?_ rfl
  refine aU fE (X.rdl 1 (T.rdl qz hZ) rfl).2.1 J (fun U J=>?_) rfl
  refine xg 2 e J rfl rfl fun U J=>aJ e J ?_ rfl
  refine x_l G J rfl fun m4 _ U J G=>aJ e J ?_ rfl
  refine x_l G J rfl fun m5 _ U J G=>aJ e J ?_ rfl
  refine gQ G J (aGa rfl (J.ev rfl) (J.ev rfl) (by decide)) rfl fun m6 _ U J G=>xg 2 e J rfl rfl fun U J=>?_
  replace X:=bH (x:=S.2) ((SH.pure_ T X).pk 1)
  refine pA G aAh J rfl (fun _ h=>aQ h X (qz+0) hZ) (fun b8 w X G=>?_) fun b8 v U w hR J G=>?_
  ·cases G
   exact hQp _ rfl _ _ J.defers X
  obtain⟨rfl,X⟩:=hR
  obtain⟨i5,i6,i7,X⟩:=aM X
  obtain⟨i8,X⟩:=(X.pk 1).unpure
  exact wpList_nil (hj1 b8.f0 G i5 i6 i7 i8 U w (J.sub _ rfl) X)
 refine xg 12 e J rfl rfl fun U J=>?_
 replace X:=bH (x:=S.2) ((SH.pure_ T X).pk 1)
 refine pA G aAh J rfl (fun _ h=>aQ h X (qz+0) hZ) (fun b9 w X G=>?_) fun b9 v U w hR J G=>?_
 ·cases G
  exact hQp _ rfl _ _ J.defers X
 obtain⟨rfl,X⟩:=hR
 obtain⟨i9,j0,j1,X⟩:=aM X
 obtain⟨j2,X⟩:=(X.pk 1).unpure
 exact wpList_nil (hj1 b9.f0 G i9 j0 j1 j2 U w (J.sub _ rfl) X)
theorem aBb {a0 g0 y} (G:rR a0=some y) (X:SH r (obj157 Z wz g0 a0::L) w) (qz:Nat) (hZ:L[qz]?=some (zone Z wz)) :
  RetS Tryz.prog 101 #[.pointer (some ⟨g0,0,none⟩)] w aCh y (fun y v w'=>∃ (B0:Option Addr) (m0:Nat) (d0:Nat),v=.slice B0 m0 d0∧SH r (own (kI .i64) 2 B0 m0 d0 y.1::obj157 Z wz g0 y.2::L) w') (fun y w'=>SH r (obj157 Z wz g0 y::L) w'):=by
 refine wZ Tryz.func101 rfl Tryz.ntmps101 [(0,_)] rfl (by simp) ?_
 intro U J Qf hQ hQn hQp
 unfold rR at G
 refine nz 1 J rfl fun U J=>ws fun o8 g7=>xk 1 J rfl fun U J=>pA G aSd J rfl (fun _ h=>pN h X (qz+0) hZ) (fun g8 w X G=>?_) fun g8 v U w hR J G=>?_
 ·cases G
  exact hQp _ rfl _ _ J.defers X
 obtain⟨rfl,X⟩:=hR
 refine x_m J rfl fun U J=>wn (g7 _ _ ?_)
 refine ws fun o9 g9=>xk 3 J rfl fun U J=>pA G aAh J rfl (fun _ h=>aQ h X (qz+0) hZ) (fun h0 w X G=>?_) fun h0 v U w hR J G=>?_
 ·cases G
  exact hQp _ rfl _ _ J.defers X
 obtain⟨rfl,X⟩:=hR
 refine wn (g9 _ _ ?_)
 refine ws fun p0 h1=>xk 1 J rfl fun U J=>pA G aQb J rfl (fun _ h=>jD h X (qz+0) hZ) (fun f w X G=>?_) fun f v U w hR J G=>?_
 ·cases G
  exact hQp _ rfl _ _ J.defers X
 obtain⟨rfl,X⟩:=hR
 obtain⟨p,q,t,X⟩:=aM X
 obtain⟨c,X⟩:=(X.pk 1).unpure
 refine gQ G J (aY mE uu3 rfl (J.ev rfl)) rfl fun b _ U J G=>x_m J rfl fun U J=>wn (h1 _ _ ?_)
 refine nz 1 J rfl fun U J=>wp_seq_k fun p1 h2=>nz 1 J rfl fun U J=>aA fun h3 h4=>?_
 have hb1:∀u d7,jF u d7=some y→∀d8 d9 e0 z A B (e8:Imm Z wz (kI .u8) d8 d9 e0 u) U w,FR 70 [] U [(0,(pP g0)),(5,.slice z A B)]→SH r (blk g0 157 [.slice d8 d9 e0]::own (kI .i64) 2 z A B d7::L) w→h3 U w:=by
  intro u d7 G d8 d9 e0 z A B e8 U w J X
  unfold jF at G
  refine h4 _ _ (h2 _ _ ?_)
  refine nz 2 J rfl fun U J=>?_
  replace X:=(SH.pure_ e8 X).pk 1
  replace X:=(bH (x:=(⟨u⟩:S157)) X).pk 1
  cases G
  refine wp_ret (hQ _ rfl _ _ ?_)
  exact lv Tryz.results101 J rfl ⟨z,A,B,rfl,X⟩
 refine nz 2 J rfl fun U J=>bA J G rfl (fun h5 G=>?_) fun h5 G=>?_
 ·refine aC (xk 2 J rfl fun U J=>?_)
  refine x_v J (mL rfl (rW (vals:=#[.pointer (some ⟨g0,0,none⟩)]) J rfl) (rW (vals:=#[]) J rfl)) rfl fun U J=>?_
  replace X:=bH (x:=f.2) ((SH.pure_ c X).pk 1)
  refine pA G aZu J rfl (fun _ h=>aA5 h X (qz+0) hZ) (fun e1 w X G=>?_) fun e1 v U w hR J G=>?_
  ·cases G
   exact hQp _ rfl _ _ J.defers X
  obtain⟨h6,h7,h8,rfl,X⟩:=hR
  obtain⟨h9,i0,i1,X⟩:=aM (X.pk 1)
  obtain⟨i2,X⟩:=(X.pk 1).unpure
  exact x_m J rfl fun U J=>wpList_nil (hb1 e1.2.f0 e1.1 G h9 i0 i1 h6 h7 h8 i2 U w (J.sub _ rfl) X)
 refine nz 2 J rfl fun U J=>bA J G rfl (fun i3 G=>?_) fun i3 G=>?_
 ·refine nz 1 J rfl fun U J=>nz 2 J rfl fun U J=>aA fun e9 i4=>?_
  have hb2:∀C D,wO C D=some y→∀E F H I K M (f1:Imm Z wz (kI .u8) E F H C) U w,FR 70 [] U [(0,(pP g0)),(5,.slice I K M)]→SH r (blk g0 157 [.slice E F H]::own (kI .i64) 2 I K M D::L) w→e9 U w:=by
   intro C D G E F H I K M f1 U w J X
   unfold wO at G
   exact i4 _ _ (hb1 C D G E F H I K M f1 U w (J.sub _ rfl) X)
  obtain⟨t183,i5,G⟩:=bnd G
  have i6:=G
  have i7:∀g i,(.inl (g,i))=t183→∀N O P Q R S (f2:Imm Z wz (kI .u8) N O P g) U w,FR 70 [] U [(0,(pP g0)),(5,.slice Q R S)]→SH r (blk g0 157 [.slice N O P]::own (kI .i64) 2 Q R S i::L) w→e9 U w:=by
   intro g i ht N O P Q R S f2 U w J X
   subst ht
   replace G:tZ g i=some y:=G
   unfold tZ at G
   exact hb2 g i G N O P Q R S f2 U w (J.sub _ rfl) X
  replace X:=(SH.nil_own (d:=(kI .i64)) (e:=2) X).pk 1
  refine aD i5 (fun s U w=>∃T W Y a1 a2 a3,Imm Z wz (kI .u8) T W Y s.1∧FR 70 [] U [(0,(pP g0)),(5,.slice a1 a2 a3),(6,.int .i64 s.2.2.1),(26,.int .i64 b),(27,.int .i64 s.2.2.2)]∧SH r (blk g0 157 [.slice T W Y]::own (kI .i64) 2 a1 a2 a3 s.2.1::L) w) ⟨p,q,t,none,0,0,c,J.sub _ rfl,X⟩ ?_
  intro p2 i8 i9 G j0 f3 U w hLab
  obtain⟨e2,f4,j1,j2⟩:=i8
  replace G:fY b e2 f4 j1 j2=some i9:=G
  unfold fY at G
  try dsimp only at hLab
  obtain⟨T,W,Y,a1,a2,a3,f5,J,X⟩:=hLab
  refine nz 1 J rfl fun U J=>wp_seq_k fun p3 j3=>bA J G rfl (fun j4 G=>?_) fun j4 G=>?_
  ·refine wp_skip (j3 _ _ ?_)
   refine wp_seq_k fun p4 j5=>aA fun p5 j6=>ws fun p6 j7=>xk 2 J rfl fun U J=>?_
   replace X:=(SH.pure_ f5 X).pk 1
   replace X:=bH (x:=(⟨e2⟩:S157)) X
   refine pA G aN1 J rfl (fun _ h=>mQ h X (qz+1) hZ) (fun f6 w X G=>?_) fun f6 v U w hR J G=>?_
   ·replace X:=X.drop 1
    cases G
    have ht:=f3 _ rfl
    subst ht
    replace G:=i6
    replace G:some (.inr f6)=some y:=G
    cases G
    exact hQp _ rfl _ _ J.defers X
   obtain⟨rfl,X⟩:=hR
   obtain⟨j8,j9,k0,X⟩:=aM X
   obtain⟨k1,X⟩:=(X.pk 1).unpure
   refine x_l G J rfl fun a4 _ U J G=>x_m J rfl fun U J=>wn (j7 _ _ ?_)
   refine aC (xk 2 J rfl fun U J=>?_)
   refine iM (d:=(kI .i64)) (e:=2) (ps:=#[(0,.int .i64 a4)]) (cells:=[.int .i64 a4]) (xs:=[a4]) (fun w=>by kernel_rfl) rfl ⟨[.int .i64 a4],_,rfl,rfl,rfl⟩ J X (fun p7 U w X J=>?_) rfl
   obtain⟨k2,G⟩:=aB G
   have hr:=X.rd 0 rfl
   refine gH 2 kX bM J X hr.1 hr.2.1 k2 rfl (fun k3 k4 k5 U w X J=>?_) rfl
   refine x_m J rfl fun U J=>wpList_nil (j6 _ _ ?_)
   refine j5 _ _ (aC ?_)
   refine x_l G J rfl fun p8 _ U J G=>x_m J rfl fun U J=>wpList_nil ?_
   replace X:=X.drop 1 |>.pk 1
   cases G
   exact⟨_,j0 _ rfl,j8,j9,k0,k3,k4,k5,k1,J.sub _ rfl,X⟩
  cases G
  exact wp_exit (i7 e2 f4 (f3 _ rfl) T W Y a1 a2 a3 f5 U w (J.sub _ rfl) X)
 refine nz 2 J rfl fun U J=>bA J G rfl (fun k6 G=>?_) fun k6 G=>?_
 ·refine aA fun f7 k7=>?_
  have hb3:∀a5 a6,wX a5 a6=some y→∀a7 a8 a9 b1 b2 b3 (f8:Imm Z wz (kI .u8) a7 a8 a9 a5) U w,FR 70 [] U [(0,(pP g0)),(5,.slice b1 b2 b3)]→SH r (blk g0 157 [.slice a7 a8 a9]::own (kI .i64) 2 b1 b2 b3 a6::L) w→f7 U w:=by
   intro a5 a6 G a7 a8 a9 b1 b2 b3 f8 U w J X
   unfold wX at G
   exact k7 _ _ (hb1 a5 a6 G a7 a8 a9 b1 b2 b3 f8 U w (J.sub _ rfl) X)
  obtain⟨k8,k9,G⟩:=bnd G
  have f9:=G
  have l0:∀j k,(.inl (j,k))=k8→∀b4 b5 b6 b7 b8 b9 (g1:Imm Z wz (kI .u8) b4 b5 b6 j) U w,FR 70 [] U [(0,(pP g0)),(5,.slice b7 b8 b9)]→SH r (blk g0 157 [.slice b4 b5 b6]::own (kI .i64) 2 b7 b8 b9 k::L) w→f7 U w:=by
   intro j k ht b4 b5 b6 b7 b8 b9 g1 U w J X
   subst ht
   replace G:tP j k=some y:=G
   unfold tP at G
   exact hb3 j k G b4 b5 b6 b7 b8 b9 g1 U w (J.sub _ rfl) X
  replace X:=(SH.nil_own (d:=(kI .i64)) (e:=2) X).pk 1
  refine aD k9 (fun s U w=>∃c0 c1 c2 l m n,Imm Z wz (kI .u8) c0 c1 c2 s.1∧FR 70 [] U [(0,(pP g0)),(4,.int .i64 b),(5,.slice l m n)]∧SH r (blk g0 157 [.slice c0 c1 c2]::own (kI .i64) 2 l m n s.2::L) w) ⟨p,q,t,none,0,0,c,J.sub _ rfl,X⟩ ?_
  intro p9 l1 e3 G l2 e4 U w hLab
  obtain⟨e5,g2⟩:=l1
  replace G:dT b e5 g2=some e3:=G
  unfold dT at G
  try dsimp only at hLab
  obtain⟨c0,c1,c2,l,m,n,g3,J,X⟩:=hLab
  refine wp_seq_k fun q0 l3=>ws fun q1 l4=>xk 1 J rfl fun U J=>aU bM (X.rd 1 rfl).2.1 J (fun U J=>?_) rfl
  refine nk 2 J rfl fun U J=>l4 _ _ (bA J G rfl (fun l5 G=>?_) fun l5 G=>?_)
  ·refine wp_skip (l3 _ _ ?_)
   refine aA fun q2 l6=>ws fun q3 l7=>xk 1 J rfl fun U J=>?_
   replace X:=(SH.pure_ g3 X).pk 1
   replace X:=bH (x:=(⟨e5⟩:S157)) X
   refine pA G aN1 J rfl (fun _ h=>mQ h X (qz+1) hZ) (fun a w X G=>?_) fun a v U w hR J G=>?_
   ·replace X:=X.drop 1
    cases G
    have ht:=e4 _ rfl
    subst ht
    replace G:=f9
    replace G:some (.inr a)=some y:=G
    cases G
    exact hQp _ rfl _ _ J.defers X
   obtain⟨rfl,X⟩:=hR
   obtain⟨q4,q5,q6,X⟩:=aM X
   obtain⟨l8,X⟩:=(X.pk 1).unpure
   refine x_m J rfl fun U J=>wn (l7 _ _ ?_)
   refine ws fun q7 l9=>xk 3 J rfl fun U J=>aU bM (X.rd 1 rfl).2.1 J (fun U J=>?_) rfl
   refine x_l G J rfl fun q8 _ U J G=>x_l G J rfl fun q9 _ U J G=>gQ G J (aY uu3 mE rfl (J.ev rfl)) rfl fun r0 _ U J G=>?_
   replace X:=bH (x:=a.2) ((SH.pure_ l8 X).pk 1)
   refine pA G aQb J rfl (fun _ h=>jD h X (qz+1) hZ) (fun c3 w X G=>?_) fun c3 v U w hR J G=>?_
   ·replace X:=X.drop 1
    cases G
    have ht:=e4 _ rfl
    subst ht
    replace G:=f9
    replace G:some (.inr c3)=some y:=G
    cases G
    exact hQp _ rfl _ _ J.defers X
   obtain⟨rfl,X⟩:=hR
   obtain⟨c4,c5,c6,X⟩:=aM X
   obtain⟨m1,X⟩:=(X.pk 1).unpure
   refine x_l G J rfl fun g4 _ U J G=>x_m J rfl fun U J=>wn (l9 _ _ ?_)
   refine aA fun g5 m2=>?_
   have hb4:∀e6,wV c3 e6=some e3→∀c7 c8 c9 U w,FR 70 [] U [(0,(pP g0)),(4,.int .i64 b),(5,.slice c7 c8 c9)]→SH r (blk g0 157 [.slice c4 c5 c6]::own (kI .i64) 2 c7 c8 c9 e6::L) w→g5 U w:=by
    intro e6 G c7 c8 c9 U w J X
    unfold wV at G
    cases G
    refine m2 _ _ (l6 _ _ ?_)
    exact⟨_,l2 _ rfl,c4,c5,c6,c7,c8,c9,m1,J.sub _ rfl,X⟩
   obtain⟨m3,m4,G⟩:=bnd G
   have m5:∀o,(o)=m3→∀d1 d2 d3 U w,FR 70 [] U [(0,(pP g0)),(4,.int .i64 b),(5,.slice d1 d2 d3)]→SH r (blk g0 157 [.slice c4 c5 c6]::own (kI .i64) 2 d1 d2 d3 o::L) w→g5 U w:=by
    intro o ht d1 d2 d3 U w J X
    subst ht
    replace G:tX c3 o=some e3:=G
    unfold tX at G
    exact hb4 o G d1 d2 d3 U w (J.sub _ rfl) X
   refine aD m4 (fun s U w=>∃d4 d5 d6,FR 70 [] U [(0,(pP g0)),(4,.int .i64 b),(5,.slice d4 d5 d6),(7,.int .i64 a.1),(54,.int .u64 g4),(55,.int .u64 s.2)]∧SH r (blk g0 157 [.slice c4 c5 c6]::own (kI .i64) 2 d4 d5 d6 s.1::L) w) ⟨l,m,n,J.sub _ rfl,X⟩ ?_
   intro r1 m6 m7 G m8 m9 U w hLab
   obtain⟨g6,n0⟩:=m6
   replace G:gY a g4 g6 n0=some m7:=G
   unfold gY at G
   try dsimp only at hLab
   obtain⟨d4,d5,d6,J,X⟩:=hLab
   refine nz 1 J rfl fun U J=>wp_seq_k fun r2 n1=>bA J G rfl (fun n2 G=>?_) fun n2 G=>?_
   ·refine wp_skip (n1 _ _ ?_)
    refine wp_seq_k fun r3 n3=>aA fun r4 n4=>aC (xk 2 J rfl fun U J=>?_)
    refine iM (d:=(kI .i64)) (e:=2) (ps:=#[(0,.int .i64 a.1)]) (cells:=[.int .i64 a.1]) (xs:=[a.1]) (fun w=>by kernel_rfl) rfl ⟨[.int .i64 a.1],_,rfl,rfl,rfl⟩ J X (fun r5 U w X J=>?_) rfl
    obtain⟨n5,G⟩:=aB G
    have hr:=X.rd 0 rfl
    refine gH 2 kX bM J X hr.1 hr.2.1 n5 rfl (fun n6 n7 n8 U w X J=>?_) rfl
    refine x_m J rfl fun U J=>wpList_nil (n4 _ _ ?_)
    refine n3 _ _ (aC ?_)
    refine x_l G J rfl fun r6 _ U J G=>x_m J rfl fun U J=>wpList_nil ?_
    replace X:=X.drop 1 |>.pk 1
    cases G
    exact⟨_,m8 _ rfl,n6,n7,n8,J.sub _ rfl,X⟩
   cases G
   exact wp_exit (m5 g6 (m9 _ rfl) d4 d5 d6 U w (J.sub _ rfl) X)
  cases G
  exact wp_exit (l0 e5 g2 (e4 _ rfl) c0 c1 c2 l m n g3 U w (J.sub _ rfl) X)
 refine nz 2 J rfl fun U J=>bA J G rfl (fun n9 G=>?_) fun n9 G=>?_
 ·refine nz 2 J rfl fun U J=>bA J G rfl (fun o0 G=>?_) fun o0 G=>?_
  ·refine aC (xk 2 J rfl fun U J=>?_)
   replace X:=bH (x:=f.2) ((SH.pure_ c X).pk 1)
   refine pA G bA3 J rfl (fun _ h=>aEg h X (qz+0) hZ) (fun e7 w X G=>?_) fun e7 v U w hR J G=>?_
   ·cases G
    exact hQp _ rfl _ _ J.defers X
   obtain⟨o1,o2,o3,rfl,X⟩:=hR
   obtain⟨o4,o5,o6,X⟩:=aM (X.pk 1)
   obtain⟨o7,X⟩:=(X.pk 1).unpure
   exact x_m J rfl fun U J=>wpList_nil (hb1 e7.2.f0 e7.1 G o4 o5 o6 o1 o2 o3 o7 U w (J.sub _ rfl) X)
  replace X:=(SH.nil_own (d:=(kI .i64)) (e:=2) X).pk 1
  exact wp_skip (hb1 f.2.f0 [] G p q t none 0 0 c U w (J.sub _ rfl) X)
 replace X:=(SH.nil_own (d:=(kI .i64)) (e:=2) X).pk 1
 exact wp_skip (hb1 f.2.f0 [] G p q t none 0 0 c U w (J.sub _ rfl) X)
theorem vB {a0 a1 g0 g1 y} (G:oQ a0 a1=some y) (X:SH r (obj157 Z wz g0 a0::obj108 g1 a1::L) w) (qz:Nat) (hZ:L[qz]?=some (zone Z wz)) :
  RetS Tryz.prog 100 #[.pointer (some ⟨g0,0,none⟩),(pP g1)] w aCh y (fun y v w'=>v=.tuple #[]∧SH r (obj157 Z wz g0 y.1::obj108 g1 y.2::L) w') (fun y w'=>SH r (obj157 Z wz g0 y.1::obj108 g1 y.2::L) w'):=by
 refine wZ Tryz.func100 rfl Tryz.ntmps100 [(0,_),(1,_)] rfl (by simp) ?_
 intro U J Qf hQ hQn hQp
 unfold oQ at G
 obtain⟨d,e,f,X⟩:=aM X
 obtain⟨b,X⟩:=(X.pk 1).unpure
 obtain⟨g,i,j,X⟩:=aD3 (X.pk 1)
 refine aC (x_m J rfl fun U J=>?_)
 replace X:=bH (x:=a0) ((SH.pure_ b X).pk 3)
 refine pA G aUx J rfl (fun _ h=>aBb h X (qz+2) hZ) (fun a w X G=>?_) fun a v U w hR J G=>?_
 ·replace X:=(aC8 (x:=a1) (X.pk 2 |>.pk 2)).pk 1
  cases G
  exact hQp _ rfl _ _ J.defers X
 obtain⟨k,l,m,rfl,X⟩:=hR
 obtain⟨n,o,p,X⟩:=aM (X.pk 1)
 obtain⟨c,X⟩:=(X.pk 1).unpure
 refine dH 2 aY8 J X rfl (fun  U w X J=>?_) rfl
 refine wpList_nil ?_
 replace X:=(aC8 (x:=a.1) ((bH (x:=a.2) ((SH.pure_ c X).pk 2)).pk 2 |>.pk 2)).drop 2 |>.pk 1
 cases G
 refine hQn _ rfl _ _ (aCy Tryz.results100 J ?_)
 exact⟨rfl,X⟩
theorem yA {a0 b A0 n0 c0 a y} (G:oK a0 b=some y) (X:SH r (obj108 a b::L) w) (qz:Nat) (hZ:L[qz]?=some (zone Z wz)) (ha0:Imm Z wz (kI .u8) A0 n0 c0 a0) :
  Ret Tryz.prog 75 #[.slice A0 n0 c0,.func (.func 100) #[] #[.pointer (some ⟨a,0,none⟩)]] w fun v w'=>v=.bool y.1∧SH r (obj108 a y.2::L) w':=by
 obtain⟨y',hy,G⟩:=bnd G
 refine Ret.mono_ (aGg (R:=fun v w'=>v=.bool y.1∧SH r (obj108 a y.2::L) w') aXz X (fun g g4 w1 hS1=>?_)) (fun v w' h=>h)
 replace hS1:=bH (x:=⟨a0⟩) (hS1.pk 1 |> fun h=>(SH.pure_ ha0 (h.pk 1)).pk 1)
 replace hS1:=hS1.pk 1
 replace hS1:=hS1.pk 2
 replace hS1:=hS1.pk 2
 rcases y' with y' | y'
 ·replace G:=aQ3 G
  cases G
  left
  refine Ret.mono_ (RetS.lf (vB hy hS1 (qz+1) hZ :)) ?_
  rintro v w2 ⟨rfl,X⟩
  replace X:=X.pk 2 |>.pk 1
  obtain⟨A',n',c',X⟩:=aM X
  have hQ:=SH.unpure (X.pk 1)
  clear X
  obtain⟨hi,X⟩:=hQ
  refine⟨_,A',n',c',X,fun w3 h3=>⟨?_,h3⟩⟩
  rw [← hi.ln]
 ·replace G:=aQi G
  cases G
  right
  refine Calls.mono (RetS.rf (vB hy hS1 (qz+1) hZ :)) ?_
  rintro e w2 ⟨rfl,X⟩
  replace X:=X.pk 2 |>.drop 1
  exact⟨rfl,_,X,fun w3 h3=>⟨rfl,h3⟩⟩
theorem oS {a0 A0 n0 c0 y} (G:iL a0=some y) (X:SH r (L) w) (qz:Nat) (hZ:L[qz]?=some (zone Z wz)) (ha0:Imm Z wz (kI .u8) A0 n0 c0 a0) :
  Ret Tryz.prog 78 #[.slice A0 n0 c0] w fun v w'=>∃ (B0:Option Addr) (m0:Nat) (d0:Nat),v=.tuple #[(.slice B0 m0 d0),(.int .i64 y.2)]∧SH r (own (kI .i64) 2 B0 m0 d0 y.1::L) w':=by
 refine enter Tryz.func78 rfl Tryz.ntmps78 [(0,_)] rfl (by simp) ?_
 intro U J Qf hQ hQn
 unfold iL at G
 refine nz 2 J rfl fun U J=>ws fun m a=>gZ (cs:=[.slice none 0 0]) bAa J X (fun b U w X J=>?_) rfl
 refine wn (a _ _ ?_)
 refine wp_seq_k fun n c=>ws fun o f=>xk 1 J rfl fun U J=>x_v J (mL rfl (rW (vals:=#[]) J rfl) (rW (vals:=#[.pointer (some ⟨b,0,none⟩)]) J rfl)) rfl fun U J=>?_
 replace X:=aC8 (x:=[]) ((SH.nil_own (d:=(kI .i64)) (e:=2) X).pk 1)
 obtain⟨p,g,G⟩:=bnd G
 refine x_c aWl J rfl (yA g X (qz+0) hZ ha0 :) fun v U w hR J=>?_
 obtain⟨rfl,X⟩:=hR
 obtain⟨h,i,j,X⟩:=aD3 X
 refine nk 1 J rfl fun U J=>f _ _ (bA J G rfl (fun k G=>?_) fun k G=>?_)
 ·refine nz 2 J rfl fun U J=>?_
  replace X:=(SH.nil_own (d:=(kI .i64)) (e:=2) X).drop 1 |>.drop 1
  cases G
  refine wp_ret (hQ _ _ ?_)
  exact lv2 Tryz.results78 J rfl rfl ⟨none,0,0,rfl,X⟩
 refine wp_skip (c _ _ ?_)
 refine ws fun q l=>aH bM (X.cell 0 rfl 0 _ rfl) J (fun U J=>?_) rfl
 refine nk 2 J rfl fun U J=>?_
 replace X:=X.drop 0
 cases G
 refine l _ _ (wp_ret ?_)
 refine hQ _ _ (lv2 Tryz.results78 J rfl rfl ?_)
 exact⟨h,i,j,rfl,X⟩
end
noncomputable section
set_option linter.unusedSimpArgs false
def yR (a0:Nat):Option (Bool) :=
  some (!feq a0 a0)
def tW (a0:Nat):Option (Nat) :=
  (yR a0).bind fun a=>(if a=true then (some ((9221120237041090560:Int).toNat)) else (some a0))
def wE (a0:Nat):Option (Int) :=
  (tW a0).bind fun a=>(some (a:Int))
def aCn (a0:Int):Option (Nat) :=
  (tW a0.toNat).bind fun a=>(some a)
def uL (a0:Nat) (a:Bool):Option (Int) :=
  if a=true then (some 9221120237041090560) else (some (a0:Int))
def yD (a0:Nat):Option (Int) :=
  ltt (bS .u64 (a0:Int) 52) fun a=>(ltt (a.tmod 2048) fun b=>(if (b==2047)=true then (ltt ((a0:Int).tmod 4503599627370496) fun c=>(uL a0 (c != 0))) else (uL a0 false)))
def zG (a0:Nat) (a1:Nat):Option (Bool) :=
  (yD a0).bind fun a=>((yD a1).bind fun b=>(some (a==b)))
def qQ (a:(List Nat)):Option ((List Nat)×Int) :=
  some (a,0)
def oM (a:(List Nat)):Option ((List Nat)×Int) :=
  qQ a
def dK (d:((List Int)×Int)) (a:(List Nat)) (b:Int):Option (((List Nat)×Int)⊕(((List Nat))⊕((List Nat)×Int))) :=
  if (decide (b<(d.1.length:Int)))=true then ((at_ d.1 b).bind fun f=>(ltt (IntKind.u64.wrap f) fun e=>((aCn e).bind fun c=>((wE c).bind fun g=>(if (g != e)=true then (some (.inr (.inr ([],3)))) else (chk (a.length+[c].length≤140737488355328 / 8) (ltt (IntKind.i64.wrap (b+1)) fun h=>(some (.inl (a++[c],h)))))))))) else (some (.inr (.inl (a))))
def mS (a0:(List Int)):Option ((List Nat)×Int) :=
  (iL a0).bind fun a=>(if (a.2 != 0)=true then (some ([],a.2)) else ((loop (fun s=>dK a s.1 s.2) ([],0)).bind fun t=>match t with | (.inl t)=>oM t | (.inr t)=>some t))
end
section
variable {r:World} {L:List HP} {w:World} {Z:Nat→Prop} {wz:World}
theorem aIg {a0 y} (G:yR a0=some y) (X:SH r (L) w) :
  Ret Tryz.prog 135 #[.float .f64 a0] w fun v w'=>v=.bool y∧SH r (L) w':=by
 refine enter Tryz.func135 rfl Tryz.ntmps135 [(0,_)] rfl (by simp) ?_
 intro U J Qf hQ hQn
 unfold yR at G
 refine nz 1 J rfl fun U J=>ws fun b a=>xk 2 J rfl fun U J=>x_v J (bAu rfl (J.ev rfl) (J.ev rfl)) rfl fun U J=>x_m J rfl fun U J=>wn (a _ _ ?_)
 cases G
 refine wp_ret (hQ _ _ ?_)
 exact lv Tryz.results135 J rfl ⟨rfl,X⟩
theorem aB1 {a0 y} (G:tW a0=some y) (X:SH r (L) w) :
  Ret Tryz.prog 117 #[.float .f64 a0] w fun v w'=>v=.float .f64 y∧SH r (L) w':=by
 refine enter Tryz.func117 rfl Tryz.ntmps117 [(0,_)] rfl (by simp) ?_
 intro U J Qf hQ hQn
 unfold tW at G
 refine nz 1 J rfl fun U J=>wp_seq_k fun f a=>ws fun g b=>xk 1 J rfl fun U J=>?_
 obtain⟨h,c,G⟩:=bnd G
 refine x_c bAs J rfl (aIg c X :) fun v U w hR J=>?_
 obtain⟨rfl,X⟩:=hR
 refine wn (b _ _ ?_)
 refine bA J G rfl (fun d G=>?_) fun d G=>?_
 ·refine ws fun i e=>x_v J (aMu (aVh _) rfl (evs J rfl)) rfl fun U J=>x_m J rfl fun U J=>wn (e _ _ ?_)
  cases G
  refine wp_ret (hQ _ _ ?_)
  exact lv Tryz.results117 J rfl ⟨rfl,X⟩
 refine wp_skip (a _ _ ?_)
 refine nz 2 J rfl fun U J=>?_
 cases G
 refine wp_ret (hQ _ _ ?_)
 exact lv Tryz.results117 J rfl ⟨rfl,X⟩
theorem aD2 {a0 y} (G:wE a0=some y) (X:SH r (L) w) :
  Ret Tryz.prog 90 #[.float .f64 a0] w fun v w'=>v=.int .u64 y∧SH r (L) w':=by
 refine enter Tryz.func90 rfl Tryz.ntmps90 [(0,_)] rfl (by simp) ?_
 intro U J Qf hQ hQn
 unfold wE at G
 refine nz 1 J rfl fun U J=>ws fun c a=>xk 1 J rfl fun U J=>?_
 obtain⟨d,b,G⟩:=bnd G
 refine x_c aVj J rfl (aB1 b X :) fun v U w hR J=>?_
 obtain⟨rfl,X⟩:=hR
 refine x_v J (aMu (aYn _) rfl (evs J rfl)) rfl fun U J=>x_m J rfl fun U J=>wn (a _ _ ?_)
 cases G
 refine wp_ret (hQ _ _ ?_)
 exact lv Tryz.results90 J rfl ⟨rfl,X⟩
theorem aOo {a0 y} (G:aCn a0=some y) (X:SH r (L) w) :
  Ret Tryz.prog 104 #[.int .u64 a0] w fun v w'=>v=.float .f64 y∧SH r (L) w':=by
 refine enter Tryz.func104 rfl Tryz.ntmps104 [(0,_)] rfl (by simp) ?_
 intro U J Qf hQ hQn
 unfold aCn at G
 refine nz 1 J rfl fun U J=>ws fun c a=>xk 1 J rfl fun U J=>x_v J (aMu (aVh _) rfl (evs J rfl)) rfl fun U J=>?_
 obtain⟨d,b,G⟩:=bnd G
 refine x_c aVj J rfl (aB1 b X :) fun v U w hR J=>?_
 obtain⟨rfl,X⟩:=hR
 refine x_m J rfl fun U J=>wn (a _ _ ?_)
 cases G
 refine wp_ret (hQ _ _ ?_)
 exact lv Tryz.results104 J rfl ⟨rfl,X⟩
theorem aEy {a0 y} (G:yD a0=some y) (X:SH r (L) w) :
  Ret Tryz.prog 63 #[.float .f64 a0] w fun v w'=>v=.int .u64 y∧SH r (L) w':=by
 refine enter Tryz.func63 rfl Tryz.ntmps63 [(0,_)] rfl (by simp) ?_
 intro U J Qf hQ hQn
 unfold yD at G
 refine nz 1 J rfl fun U J=>ws fun i c=>xk 1 J rfl fun U J=>x_v J (aMu (aYn _) rfl (evs J rfl)) rfl fun U J=>x_m J rfl fun U J=>wn (c _ _ ?_)
 refine wp_seq_k fun j d=>wp_seq_k fun e f=>?_
 have hj1:∀b,uL a0 b=some y→∀U w,FR 16 [] U [(3,.int .u64 (a0:Int)),(14,.bool b)]→SH r (L) w→e U w:=by
  intro b G U w J X
  unfold uL at G
  refine f _ _ (bA J G rfl (fun g G=>?_) fun g G=>?_)
  ·refine nz 1 J rfl fun U J=>?_
   cases G
   refine wp_ret (hQ _ _ ?_)
   exact lv Tryz.results63 J rfl ⟨rfl,X⟩
  refine wp_skip (d _ _ ?_)
  refine nz 2 J rfl fun U J=>?_
  cases G
  refine wp_ret (hQ _ _ ?_)
  exact lv Tryz.results63 J rfl ⟨rfl,X⟩
 refine aC (x_m J rfl fun U J=>?_)
 refine gQ G J (qV rfl (J.ev rfl) (J.ev rfl) (by decide)) rfl fun k _ U J G=>gQ G J (aHg rfl (J.ev rfl) (J.ev rfl) (by decide)) rfl fun l _ U J G=>xk 2 J rfl fun U J=>bcG G (fun a G=>?_) fun a G=>?_
 ·refine xg 1 a J rfl rfl fun U J=>aJ a J ?_ rfl
  exact gQ G J (aHg rfl (J.ev rfl) (J.ev rfl) (by decide)) rfl fun h _ U J G=>ng 2 a J rfl rfl fun U J=>hj1 (h != 0) G U w (J.sub _ rfl) X
 exact ng 4 a J rfl rfl fun U J=>hj1 false G U w (J.sub _ rfl) X
theorem aLj {a0 a1 y} (G:zG a0 a1=some y) (X:SH r (L) w) :
  Ret Tryz.prog 46 #[.float .f64 a0,.float .f64 a1] w fun v w'=>v=.bool y∧SH r (L) w':=by
 refine enter Tryz.func46 rfl Tryz.ntmps46 [(0,_),(1,_)] rfl (by simp) ?_
 intro U J Qf hQ hQn
 unfold zG at G
 refine nz 1 J rfl fun U J=>ws fun d a=>xk 1 J rfl fun U J=>?_
 obtain⟨e,b,G⟩:=bnd G
 refine x_c bAi J rfl (aEy b X :) fun v U w hR J=>?_
 obtain⟨rfl,X⟩:=hR
 refine x_m J rfl fun U J=>?_
 obtain⟨f,c,G⟩:=bnd G
 refine x_c bAi J rfl (aEy c X :) fun v U w hR J=>?_
 obtain⟨rfl,X⟩:=hR
 refine nk 2 J rfl fun U J=>?_
 cases G
 refine a _ _ (wp_ret ?_)
 refine hQ _ _ (lv Tryz.results46 J rfl ?_)
 exact⟨rfl,X⟩
theorem aBo {a0 A0 n0 c0 y} (G:mS a0=some y) (X:SH r (L) w) (qz:Nat) (hZ:L[qz]?=some (zone Z wz)) (ha0:Imm Z wz (kI .u8) A0 n0 c0 a0) :
  Ret Tryz.prog 80 #[.slice A0 n0 c0] w fun v w'=>∃ (B0:Option Addr) (m0:Nat) (d0:Nat),v=.tuple #[(.slice B0 m0 d0),(.int .i64 y.2)]∧SH r (own kF 45 B0 m0 d0 y.1::L) w':=by
 refine enter Tryz.func80 rfl Tryz.ntmps80 [(0,_)] rfl (by simp) ?_
 intro U J Qf hQ hQn
 unfold mS at G
 refine nz 2 J rfl fun U J=>ws fun b7 B=>xk 1 J rfl fun U J=>?_
 obtain⟨n,C,G⟩:=bnd G
 refine x_c aT4 J rfl (oS C X (qz+0) hZ ha0 :) fun v U w hR J=>?_
 obtain⟨p,q,t,rfl,X⟩:=hR
 refine nk 5 J rfl fun U J=>B _ _ (wp_seq_k fun b8 D=>?_)
 refine nz 2 J rfl fun U J=>bA J G rfl (fun E G=>?_) fun E G=>?_
 ·refine nz 3 J rfl fun U J=>?_
  replace X:=(SH.nil_own (d:=kF) (e:=45) X).drop 1
  cases G
  refine wp_ret (hQ _ _ ?_)
  exact lv2 Tryz.results80 J rfl rfl ⟨none,0,0,rfl,X⟩
 refine wp_skip (D _ _ ?_)
 refine nz 1 J rfl fun U J=>wp_seq_k fun b9 F=>ws fun c1 H=>xk 1 J rfl fun U J=>aU bM (X.rd 0 rfl).2.1 J (fun U J=>?_) rfl
 refine x_m J rfl fun U J=>wn (H _ _ ?_)
 refine aA fun u I=>?_
 have hb1:∀o,qQ o=some y→∀b c f U w,FR 38 [] U [(6,.slice b c f)]→SH r (own kF 45 b c f o::L) w→u U w:=by
  intro o G b c f U w J X
  unfold qQ at G
  refine I _ _ (F _ _ ?_)
  refine nz 3 J rfl fun U J=>?_
  cases G
  refine wp_ret (hQ _ _ ?_)
  exact lv2 Tryz.results80 J rfl rfl ⟨b,c,f,rfl,X⟩
 obtain⟨K,M,G⟩:=bnd G
 have N:=G
 have O:∀a,(.inl (a))=K→∀g h i U w,FR 38 [] U [(6,.slice g h i)]→SH r (own kF 45 g h i a::L) w→u U w:=by
  intro a ht g h i U w J X
  subst ht
  replace G:oM a=some y:=G
  unfold oM at G
  exact hb1 a G g h i U w (J.sub _ rfl) X
 replace X:=SH.nil_own (d:=kF) (e:=45) X
 refine aD M (fun s U w=>∃j k l,FR 38 [] U [(6,.slice j k l),(18,.slice p q t),(19,.int .i64 (n.1.length:Int)),(20,.int .i64 s.2)]∧SH r (own kF 45 j k l s.1::own (kI .i64) 2 p q t n.1::L) w) ⟨none,0,0,J.sub _ rfl,X⟩ ?_
 intro c2 P Q G R x U w hLab
 obtain⟨z,S⟩:=P
 replace G:dK n z S=some Q:=G
 unfold dK at G
 try dsimp only at hLab
 obtain⟨j,k,l,J,X⟩:=hLab
 refine nz 1 J rfl fun U J=>wp_seq_k fun c3 T=>bA J G rfl (fun W G=>?_) fun W G=>?_
 ·refine wp_skip (T _ _ ?_)
  refine wp_seq_k fun c4 Y=>aA fun c5 a1=>ws fun c6 a2=>?_
  obtain⟨c7,A,G⟩:=bnd G
  refine fG bM sz2 (X.rd 1 rfl) A J (fun U J=>?_) rfl
  obtain⟨cs,hV,a3⟩:=el (X.rd 1 rfl) A
  obtain rfl:=hV
  refine aH uu2 (a3 0 _ rfl) J (fun U J=>?_) rfl
  refine x_m J rfl fun U J=>wn (a2 _ _ ?_)
  refine ws fun c8 a4=>xk 1 J rfl fun U J=>gQ G J (aY uu2 mE rfl (J.ev rfl)) rfl fun a5 a6 U J G=>?_
  obtain⟨m,a7,G⟩:=bnd G
  refine x_c bAx J rfl (aOo a7 X :) fun v U w hR J=>?_
  obtain⟨rfl,X⟩:=hR
  refine x_m J rfl fun U J=>wn (a4 _ _ ?_)
  refine wp_seq_k fun c9 a8=>ws fun d1 a9=>xk 1 J rfl fun U J=>?_
  obtain⟨d2,b1,G⟩:=bnd G
  refine x_c aYc J rfl (aD2 b1 X :) fun v U w hR J=>?_
  obtain⟨rfl,X⟩:=hR
  refine x_m J rfl fun U J=>x_v (v:=.int .u64 a5) J (kQ a6 (aY uu2 mE rfl (J.ev rfl))) rfl fun U J=>nk 1 J rfl fun U J=>a9 _ _ (bA J G rfl (fun b2 G=>?_) fun b2 G=>?_)
  ·refine nz 2 J rfl fun U J=>?_
   replace X:=(SH.nil_own (d:=kF) (e:=45) X).drop 1 |>.drop 1
   cases G
   refine wp_ret ?_
   have ht:=x _ rfl
   subst ht
   replace G:=N
   replace G:some ([],3)=some y:=G
   cases G
   refine hQ _ _ (lv2 Tryz.results80 J rfl rfl ?_)
   exact⟨none,0,0,rfl,X⟩
  refine wp_skip (a8 _ _ ?_)
  refine aC (xk 2 J rfl fun U J=>?_)
  refine iM (d:=kF) (e:=45) (ps:=#[(0,.float .f64 m)]) (cells:=[.float .f64 m]) (xs:=[m]) (fun w=>by kernel_rfl) rfl ⟨[.float .f64 m],_,rfl,rfl,rfl⟩ J X (fun d3 U w X J=>?_) rfl
  obtain⟨b3,G⟩:=aB G
  have hr:=X.rd 0 rfl
  refine gH 1 aM3 aCj J X hr.1 hr.2.1 b3 rfl (fun b4 b5 b6 U w X J=>?_) rfl
  refine x_m J rfl fun U J=>wpList_nil (a1 _ _ ?_)
  refine Y _ _ (aC ?_)
  refine x_l G J rfl fun d4 _ U J G=>x_m J rfl fun U J=>wpList_nil ?_
  replace X:=X.drop 1
  cases G
  exact⟨_,R _ rfl,b4,b5,b6,J.sub _ rfl,X⟩
 replace X:=X.drop 1
 cases G
 exact wp_exit (O z (x _ rfl) j k l U w (J.sub _ rfl) X)
end
noncomputable section
set_option linter.unusedSimpArgs false
def rE (a:(List Int)):Option ((List Int)) :=
  (lX a).bind fun b=>(some b)
def oU (a:(List Int)):Option ((List Int)) :=
  rE a
def iJ (a0:(List Nat)) (a:(List Int)) (b:Int):Option (((List Int)×Int)⊕(((List Int)))) :=
  if (decide (b<(a0.length:Int)))=true then ((at_ a0 b).bind fun d=>((wE d).bind fun e=>(ltt (IntKind.i64.wrap e) fun c=>(chk (a.length+[c].length≤140737488355328 / 8) (ltt (IntKind.i64.wrap (b+1)) fun f=>(some (.inl (a++[c],f)))))))) else (some (.inr (a)))
def sN (a0:(List Nat)):Option ((List Int)) :=
  (loop (fun s=>iJ a0 s.1 s.2) ([],0)).bind fun t=>oU t
end
section
variable {r:World} {L:List HP} {w:World} {Z:Nat→Prop} {wz:World}
theorem aFe {a0 A0 n0 c0 y} (G:sN a0=some y) (X:SH r (L) w) (ha0:RdL L kF A0 n0 c0 a0) :
  Ret Tryz.prog 68 #[.slice A0 n0 c0] w fun v w'=>∃ (B0:Option Addr) (m0:Nat) (d0:Nat),v=.slice B0 m0 d0∧SH r (own (kI .u8) 5 B0 m0 d0 y::L) w':=by
 refine enter Tryz.func68 rfl Tryz.ntmps68 [(0,_)] rfl (by simp) ?_
 intro U J Qf hQ hQn
 unfold sN at G
 refine nz 1 J rfl fun U J=>nz 1 J rfl fun U J=>wp_seq_k fun a4 t=>ws fun a5 u=>xk 1 J rfl fun U J=>aU aCj (X.rdl 0 ha0 rfl).2.1 J (fun U J=>?_) rfl
 refine x_m J rfl fun U J=>wn (u _ _ ?_)
 refine aA fun o x=>?_
 have hb1:∀k,rE k=some y→∀l m n U w,FR 21 [] U [(3,.slice l m n)]→SH r (own (kI .i64) 2 l m n k::L) w→o U w:=by
  intro k G l m n U w J X
  unfold rE at G
  refine x _ _ (t _ _ ?_)
  refine ws fun a6 z=>xk 1 J rfl fun U J=>?_
  obtain⟨a7,A,G⟩:=bnd G
  refine x_c aPw J rfl (qS A X (RdL.own 0 rfl (X.dropN 0)) :) fun v U w hR J=>?_
  obtain⟨B,C,D,rfl,X⟩:=hR
  refine x_m J rfl fun U J=>wn (z _ _ ?_)
  replace X:=X.drop 1
  cases G
  refine wp_ret (hQ _ _ ?_)
  exact lv Tryz.results68 J rfl ⟨B,C,D,rfl,X⟩
 obtain⟨E,F,G⟩:=bnd G
 have H:∀a,(a)=E→∀b c f U w,FR 21 [] U [(3,.slice b c f)]→SH r (own (kI .i64) 2 b c f a::L) w→o U w:=by
  intro a ht b c f U w J X
  subst ht
  replace G:oU a=some y:=G
  unfold oU at G
  exact hb1 a G b c f U w (J.sub _ rfl) X
 replace X:=SH.nil_own (d:=(kI .i64)) (e:=2) X
 refine aD F (fun s U w=>∃g h i,FR 21 [] U [(3,.slice g h i),(6,.slice A0 n0 c0),(7,.int .i64 (a0.length:Int)),(8,.int .i64 s.2)]∧SH r (own (kI .i64) 2 g h i s.1::L) w) ⟨none,0,0,J.sub _ rfl,X⟩ ?_
 intro a8 I K G M N U w hLab
 obtain⟨p,O⟩:=I
 replace G:iJ a0 p O=some K:=G
 unfold iJ at G
 try dsimp only at hLab
 obtain⟨g,h,i,J,X⟩:=hLab
 refine nz 1 J rfl fun U J=>wp_seq_k fun a9 P=>bA J G rfl (fun Q G=>?_) fun Q G=>?_
 ·refine wp_skip (P _ _ ?_)
  refine wp_seq_k fun b1 R=>aA fun b2 S=>ws fun b3 T=>?_
  obtain⟨b4,q,G⟩:=bnd G
  refine fG aCj aXl (X.rdl 1 ha0 rfl) q J (fun U J=>?_) rfl
  obtain⟨cs,hV,W⟩:=el (X.rdl 1 ha0 rfl) q
  obtain rfl:=hV
  refine aH aKm (W 0 _ rfl) J (fun U J=>?_) rfl
  refine x_m J rfl fun U J=>wn (T _ _ ?_)
  refine aC (xk 2 J rfl fun U J=>?_)
  obtain⟨b5,Y,G⟩:=bnd G
  refine x_c aYc J rfl (aD2 Y X :) fun v U w hR J=>?_
  obtain⟨rfl,X⟩:=hR
  refine gQ G J (aY mE uu2 rfl (J.ev rfl)) rfl fun j _ U J G=>iM (d:=(kI .i64)) (e:=2) (ps:=#[(0,.int .i64 j)]) (cells:=[.int .i64 j]) (xs:=[j]) (fun w=>by kernel_rfl) rfl ⟨[.int .i64 j],_,rfl,rfl,rfl⟩ J X (fun b6 U w X J=>?_) rfl
  obtain⟨Z,G⟩:=aB G
  have hr:=X.rd 0 rfl
  refine gH 1 kX bM J X hr.1 hr.2.1 Z rfl (fun a1 a2 a3 U w X J=>?_) rfl
  refine x_m J rfl fun U J=>wpList_nil (S _ _ ?_)
  refine R _ _ (aC ?_)
  refine x_l G J rfl fun b7 _ U J G=>x_m J rfl fun U J=>wpList_nil ?_
  replace X:=X.drop 1
  cases G
  exact⟨_,M _ rfl,a1,a2,a3,J.sub _ rfl,X⟩
 cases G
 exact wp_exit (H p (N _ rfl) g h i U w (J.sub _ rfl) X)
end
noncomputable section
set_option linter.unusedSimpArgs false
def lK:Option (Int) :=
  some (-1)
def jW:Option (Int) :=
  lK
def dO (a0:(List Bool)) (a1:Bool) (a:Int):Option ((Int)⊕((Unit)⊕(Int))) :=
  if (decide (a<(a0.length:Int)))=true then ((at_ a0 a).bind fun b=>(if (a1==b)=true then (some (.inr (.inr a))) else (ltt (IntKind.i64.wrap (a+1)) fun c=>(some (.inl (c)))))) else (some (.inr (.inl ())))
def jX (a0:(List Bool)) (a1:Bool):Option (Int) :=
  (loop (fun s=>dO a0 a1 s) (0)).bind fun t=>match t with | (.inl t)=>jW | (.inr t)=>some t
def fR (a0:(List Bool)) (a1:Bool):Option (Bool) :=
  (jX a0 a1).bind fun a=>(some (decide (0≤a)))
def lF (c:(List Int)) (b:(List (List UInt8))) (d:(List Bool)):Option ((S157×(List (List UInt8)))⊕(S157×(List (List UInt8)))) :=
  (fR d false).bind fun e=>((aK (⟨c⟩:S157) (!e)).bind fun a=>(mI a (fun a=>(some (.inl (a,b)))) (fun a=>(some (.inr (a,b))))))
def jG (a:(List Int)) (b:(List (List UInt8))) (c:(List Bool)):Option ((S157×(List (List UInt8)))⊕(S157×(List (List UInt8)))) :=
  lF a b c
def iQ (e:(List (List UInt8))) (b:(List (List UInt8))) (c:(List Bool)) (f:Int) (a:Int) (g:(List Int)):Option (((List Int)×(List (List UInt8))×(List Bool)×Int)⊕(((List Int)×(List (List UInt8))×(List Bool))⊕((S157×(List (List UInt8)))⊕(S157×(List (List UInt8)))))) :=
  (at_ c a).bind fun i=>((at_ e a).bind fun d=>(chk (b.length+[d].length≤140737488355328 / 16) (ltt (IntKind.i64.wrap (f+1)) fun h=>(some (.inl (g,b++[d],c.set a.toNat true,h))))))
def bZ (f:(List (List UInt8))) (i:((List Int)×S157)) (g:(List Int)) (a:(List (List UInt8))) (h:(List Bool)) (d:Int):Option (((List Int)×(List (List UInt8))×(List Bool)×Int)⊕(((List Int)×(List (List UInt8))×(List Bool))⊕((S157×(List (List UInt8)))⊕(S157×(List (List UInt8)))))) :=
  if (decide (d<(i.1.length:Int)))=true then ((at_ i.1 d).bind fun e=>(if (decide (0≤e))=true then ((aK (⟨g⟩:S157) (decide (e<(f.length:Int)))).bind fun b=>(mI b (fun b=>(iQ f a h d e b.f0)) (fun b=>(some (.inr (.inr (.inr (b,a)))))))) else ((aK (⟨g⟩:S157) false).bind fun c=>(mI c (fun c=>(iQ f a h d e c.f0)) (fun c=>(some (.inr (.inr (.inr (c,a)))))))))) else (some (.inr (.inl (g,a,h))))
def lE (a1:(List (List UInt8))) (c:(List Int)) (b:(List (List UInt8))):Option ((S157×(List (List UInt8)))⊕(S157×(List (List UInt8)))) :=
  chk (0≤(b.length:Int)∧(1:Int) * (b.length:Int)≤140737488355328) ((rR (⟨c⟩:S157)).bind fun a=>(mI a (fun a=>((loop (fun s=>bZ b a s.1 s.2.1 s.2.2.1 s.2.2.2) (a.2.f0,a1,List.replicate (b.length:Int).toNat (false:Bool),0)).bind fun t=>match t with | (.inl t)=>jG t.1 t.2.1 t.2.2 | (.inr t)=>some t)) (fun a=>(some (.inr (a,a1))))))
def jH (a1:(List (List UInt8))) (a:(List Int)) (b:(List (List UInt8))):Option ((S157×(List (List UInt8)))⊕(S157×(List (List UInt8)))) :=
  lE a1 a b
def fX (a:(List (List UInt8))) (c:Int) (b:((List UInt8)×S157)) (d:(List Int)):Option (((List Int)×(List (List UInt8))×Int)⊕(((List Int)×(List (List UInt8)))⊕((S157×(List (List UInt8)))⊕(S157×(List (List UInt8)))))) :=
  chk (a.length+[b.1].length≤140737488355328 / 16) (ltt (IntKind.u64.wrap (c+1)) fun e=>(some (.inl (d,a++[b.1],e))))
def cI (a1:(List (List UInt8))) (g:(Int×S157)) (f:(List Int)) (b:(List (List UInt8))) (e:Int):Option (((List Int)×(List (List UInt8))×Int)⊕(((List Int)×(List (List UInt8)))⊕((S157×(List (List UInt8)))⊕(S157×(List (List UInt8)))))) :=
  if (decide (e<g.1))=true then ((iT (⟨f⟩:S157) 32).bind fun a=>(mI a (fun a=>(if ((b.length:Int)==0)=true then ((aK a.2 true).bind fun c=>(mI c (fun c=>(fX b e a c.f0)) (fun c=>(some (.inr (.inr (.inr (c,a1)))))))) else (ltt (IntKind.i64.wrap ((b.length:Int) - 1)) fun h=>((at_ b h).bind fun i=>((aK a.2 (Op.bytesLess i a.1)).bind fun d=>(mI d (fun d=>(fX b e a d.f0)) (fun d=>(some (.inr (.inr (.inr (d,a1)))))))))))) (fun a=>(some (.inr (.inr (.inr (a,a1)))))))) else (some (.inr (.inl (f,b))))
def iU (a0:S157) (a1:(List (List UInt8))):Option ((S157×(List (List UInt8)))⊕(S157×(List (List UInt8)))) :=
  (eS a0 4096).bind fun a=>(mI a (fun a=>((loop (fun s=>cI a1 a s.1 s.2.1 s.2.2) (a.2.f0,[],0)).bind fun t=>match t with | (.inl t)=>jH a1 t.1 t.2 | (.inr t)=>some t)) (fun a=>(some (.inr (a,a1)))))
def nW (a0:(List Int)) (a:(List (List UInt8))):Option (Bool×(List (List UInt8))) :=
  (iU (⟨a0⟩:S157) a).bind fun y=>(mI y (fun y=>some ((((y.1.f0.length:Int)==0),y.2))) (fun y=>some ((false,y.2))))
def nG (a0:(List Int)):Option ((List (List UInt8))×Int) :=
  (nW a0 []).bind fun a=>(if (!a.1)=true then (some ([],3)) else (some (a.2,0)))
end
section
variable {r:World} {L:List HP} {w:World} {Z:Nat→Prop} {wz:World}
theorem xL {a0 a1 A0 n0 c0 y} (G:jX a0 a1=some y) (X:SH r (L) w) (ha0:RdL L kB A0 n0 c0 a0) :
  Ret Tryz.prog 123 #[.slice A0 n0 c0,.bool a1] w fun v w'=>v=.int .i64 y∧SH r (L) w':=by
 refine enter Tryz.func123 rfl Tryz.ntmps123 [(0,_),(1,_)] rfl (by simp) ?_
 intro U J Qf hQ hQn
 unfold jX at G
 refine nz 1 J rfl fun U J=>wp_seq_k fun B e=>ws fun C f=>xk 1 J rfl fun U J=>aU aNp (X.rdl 0 ha0 rfl).2.1 J (fun U J=>?_) rfl
 refine x_m J rfl fun U J=>wn (f _ _ ?_)
 refine aA fun a g=>?_
 have hb1:lK=some y→∀U w,FR 19 [] U []→SH r (L) w→a U w:=by
  intro G U w J X
  unfold lK at G
  refine g _ _ (e _ _ ?_)
  refine nz 1 J rfl fun U J=>?_
  cases G
  refine wp_ret (hQ _ _ ?_)
  exact lv Tryz.results123 J rfl ⟨rfl,X⟩
 obtain⟨h,i,G⟩:=bnd G
 have j:=G
 have k:(.inl ())=h→∀U w,FR 19 [] U []→SH r (L) w→a U w:=by
  intro ht U w J X
  subst ht
  replace G:jW=some y:=G
  unfold jW at G
  exact hb1 G U w (J.sub _ rfl) X
 refine aD i (fun s U w=>FR 19 [] U [(0,.slice A0 n0 c0),(1,.bool a1),(7,.int .i64 (a0.length:Int)),(8,.int .i64 s)]∧SH r (L) w) ⟨J.sub _ rfl,X⟩ ?_
 intro D l m G n b U w hLab
 obtain⟨c,rfl⟩:∃ q,q=l:=⟨_,rfl⟩
 replace G:dO a0 a1 c=some m:=G
 unfold dO at G
 try dsimp only at hLab
 obtain⟨J,X⟩:=hLab
 refine nz 1 J rfl fun U J=>wp_seq_k fun E o=>bA J G rfl (fun p G=>?_) fun p G=>?_
 ·refine wp_skip (o _ _ ?_)
  refine wp_seq_k fun F t=>aA fun H u=>nz 2 J rfl fun U J=>ws fun I x=>xk 3 J rfl fun U J=>?_
  obtain⟨K,d,G⟩:=bnd G
  refine fG aNp sz4 (X.rdl 0 ha0 rfl) d J (fun U J=>?_) rfl
  obtain⟨cs,hV,z⟩:=el (X.rdl 0 ha0 rfl) d
  obtain rfl:=hV
  refine aH uu4 (z 0 _ rfl) J (fun U J=>?_) rfl
  refine x_v J (aZx uu4 rfl (J.ev rfl) (J.ev rfl)) rfl fun U J=>wn (x _ _ ?_)
  refine bA J G rfl (fun A G=>?_) fun A G=>?_
  ·refine nz 2 J rfl fun U J=>?_
   cases G
   refine wp_ret ?_
   have ht:=b _ rfl
   subst ht
   replace G:=j
   replace G:some c=some y:=G
   cases G
   refine hQ _ _ (lv Tryz.results123 J rfl ?_)
   exact⟨rfl,X⟩
  refine wp_skip (u _ _ ?_)
  refine t _ _ (aC ?_)
  refine x_l G J rfl fun M _ U J G=>x_m J rfl fun U J=>wpList_nil ?_
  cases G
  exact⟨_,n _ rfl,J.sub _ rfl,X⟩
 cases G
 exact wp_exit (k (b _ rfl) U w (J.sub _ rfl) X)
theorem vJ {a0 a1 A0 n0 c0 y} (G:fR a0 a1=some y) (X:SH r (L) w) (ha0:RdL L kB A0 n0 c0 a0) :
  Ret Tryz.prog 103 #[.slice A0 n0 c0,.bool a1] w fun v w'=>v=.bool y∧SH r (L) w':=by
 refine enter Tryz.func103 rfl Tryz.ntmps103 [(0,_),(1,_)] rfl (by simp) ?_
 intro U J Qf hQ hQn
 unfold fR at G
 refine nz 1 J rfl fun U J=>ws fun c a=>xk 2 J rfl fun U J=>?_
 obtain⟨d,b,G⟩:=bnd G
 refine x_c aX4 J rfl (xL b X (RdL.sfx 0 rfl ha0) :) fun v U w hR J=>?_
 obtain⟨rfl,X⟩:=hR
 refine nk 2 J rfl fun U J=>?_
 cases G
 refine a _ _ (wp_ret ?_)
 refine hQ _ _ (lv Tryz.results103 J rfl ?_)
 exact⟨rfl,X⟩
theorem uM {a0 a1 g0 g1 y} (G:iU a0 a1=some y) (X:SH r (obj157 Z wz g0 a0::obj37 g1 a1::L) w) (qz:Nat) (hZ:L[qz]?=some (zone Z wz)) :
  RetS Tryz.prog 102 #[.pointer (some ⟨g0,0,none⟩),(pP g1)] w aCh y (fun y v w'=>v=.tuple #[]∧SH r (obj157 Z wz g0 y.1::obj37 g1 y.2::L) w') (fun y w'=>SH r (obj157 Z wz g0 y.1::obj37 g1 y.2::L) w'):=by
 refine wZ Tryz.func102 rfl Tryz.ntmps102 [(0,_),(1,_)] rfl (by simp) ?_
 intro U J Qf hQ hQn hQp
 unfold iU at G
 obtain⟨o2,o3,o4,X⟩:=aM X
 obtain⟨h2,X⟩:=(X.pk 1).unpure
 obtain⟨g,i,j,X⟩:=aGh (X.pk 1)
 refine nz 1 J rfl fun U J=>wp_seq_k fun o5 h3=>ws fun o6 h4=>xk 1 J rfl fun U J=>?_
 replace X:=bH (x:=a0) ((SH.pure_ h2 X).pk 3)
 refine pA G aQb J rfl (fun _ h=>jD h X (qz+2) hZ) (fun O w X G=>?_) fun O v U w hR J G=>?_
 ·replace X:=(qU (x:=a1) (X.pk 2 |>.pk 2)).pk 1
  cases G
  exact hQp _ rfl _ _ J.defers X
 obtain⟨rfl,X⟩:=hR
 obtain⟨h5,h6,h7,X⟩:=aM X
 obtain⟨h8,X⟩:=(X.pk 1).unpure
 refine x_m J rfl fun U J=>wn (h4 _ _ ?_)
 refine aA fun f3 h9=>?_
 have hb1:∀P a,lE a1 P a=some y→∀d0 d1 d2 k l m (f4:Imm Z wz (kI .u8) d0 d1 d2 P) U w,FR 70 [] U [(0,(pP g0)),(1,(pP g1)),(3,.slice k l m)]→SH r (blk g0 157 [.slice d0 d1 d2]::blk g1 37 [.slice g i j]::own kS 9 g i j a1::own kS 9 k l m a::L) w→f3 U w:=by
  intro P a G d0 d1 d2 k l m f4 U w J X
  unfold lE at G
  refine h9 _ _ (h3 _ _ ?_)
  refine ws fun o7 i0=>xk 1 J rfl fun U J=>aU lG (X.rd 3 rfl).2.1 J (fun U J=>?_) rfl
  obtain⟨i1,G⟩:=aB G
  refine aF7 (d:=kB) (bytes:=1) false bCf rfl aNp i1 J X (fun n U w X J=>?_) rfl
  refine x_m J rfl fun U J=>wn (i0 _ _ ?_)
  refine wp_seq_k fun o8 i2=>ws fun o9 i3=>xk 1 J rfl fun U J=>?_
  replace X:=(SH.pure_ f4 X).pk 2
  replace X:=bH (x:=(⟨P⟩:S157)) X
  refine pA G aUx J rfl (fun _ h=>aBb h X (qz+4) hZ) (fun u w X G=>?_) fun u v U w hR J G=>?_
  ·replace X:=(qU (x:=a1) (X.pk 3 |>.pk 3)).drop 2 |>.drop 2 |>.pk 1
   cases G
   exact hQp _ rfl _ _ J.defers X
  obtain⟨Q,R,S,rfl,X⟩:=hR
  obtain⟨i4,i5,i6,X⟩:=aM (X.pk 1)
  obtain⟨i7,X⟩:=(X.pk 1).unpure
  refine aU bM (X.rd 1 rfl).2.1 J (fun U J=>?_) rfl
  refine x_m J rfl fun U J=>wn (i3 _ _ ?_)
  refine aA fun f5 i8=>?_
  have hb2:∀T C d3,lF T C d3=some y→∀d4 d5 d6 d7 d8 d9 (f6:Imm Z wz (kI .u8) d4 d5 d6 T) U w,FR 70 [] U [(0,(pP g0)),(1,(pP g1)),(5,.slice (some ⟨n,0,none⟩) ((a.length:Int).toNat) ((a.length:Int).toNat))]→SH r (blk g0 157 [.slice d4 d5 d6]::blk g1 37 [.slice d7 d8 d9]::own kS 9 d7 d8 d9 C::own kB 4 (some ⟨n,0,none⟩) ((a.length:Int).toNat) ((a.length:Int).toNat) d3::L) w→f5 U w:=by
   intro T C d3 G d4 d5 d6 d7 d8 d9 f6 U w J X
   unfold lF at G
   refine i8 _ _ (i2 _ _ ?_)
   refine aC (xk 2 J rfl fun U J=>?_)
   obtain⟨p0,i9,G⟩:=bnd G
   refine x_c aZk J rfl (vJ i9 X (RdL.own 3 rfl (X.dropN 0)) :) fun v U w hR J=>?_
   obtain⟨rfl,X⟩:=hR
   refine xk 1 J rfl fun U J=>?_
   replace X:=(SH.pure_ f6 X).pk 1
   replace X:=bH (x:=(⟨T⟩:S157)) X
   refine pA G aAh J rfl (fun _ h=>aQ h X (qz+3) hZ) (fun j0 w X G=>?_) fun j0 v U w hR J G=>?_
   ·replace X:=(qU (x:=C) (X.pk 2 |>.pk 2)).drop 2 |>.pk 1
    cases G
    exact hQp _ rfl _ _ J.defers X
   obtain⟨rfl,X⟩:=hR
   refine wpList_nil ?_
   replace X:=(qU (x:=C) (X.pk 2 |>.pk 2)).drop 2 |>.pk 1
   cases G
   refine hQn _ rfl _ _ (aCy Tryz.results102 J ?_)
   exact⟨rfl,X⟩
  obtain⟨t171,j1,G⟩:=bnd G
  have f7:=G
  have j2:∀D E F,(.inl (D,E,F))=t171→∀W Y a2 a3 a4 a5 (f8:Imm Z wz (kI .u8) W Y a2 D) U w,FR 70 [] U [(0,(pP g0)),(1,(pP g1)),(5,.slice (some ⟨n,0,none⟩) ((a.length:Int).toNat) ((a.length:Int).toNat))]→SH r (blk g0 157 [.slice W Y a2]::blk g1 37 [.slice a3 a4 a5]::own kS 9 a3 a4 a5 E::own kB 4 (some ⟨n,0,none⟩) ((a.length:Int).toNat) ((a.length:Int).toNat) F::L) w→f5 U w:=by
   intro D E F ht W Y a2 a3 a4 a5 f8 U w J X
   subst ht
   replace G:jG D E F=some y:=G
   unfold jG at G
   exact hb2 D E F G W Y a2 a3 a4 a5 f8 U w (J.sub _ rfl) X
  replace X:=X.pk 1 |>.pk 2 |>.pk 5 |>.pk 5 |>.pk 5 |>.pk 5
  refine aD j1 (fun s U w=>∃a6 a7 a8 p q t,Imm Z wz (kI .u8) a6 a7 a8 s.1∧FR 70 [] U [(0,(pP g0)),(1,(pP g1)),(3,.slice k l m),(5,.slice (some ⟨n,0,none⟩) ((a.length:Int).toNat) ((a.length:Int).toNat)),(38,.slice Q R S),(39,.int .i64 (u.1.length:Int)),(40,.int .i64 s.2.2.2)]∧SH r (blk g0 157 [.slice a6 a7 a8]::blk g1 37 [.slice p q t]::own kS 9 p q t s.2.1::own kS 9 k l m a::own kB 4 (some ⟨n,0,none⟩) ((a.length:Int).toNat) ((a.length:Int).toNat) s.2.2.1::own (kI .i64) 2 Q R S u.1::L) w) ⟨i4,i5,i6,g,i,j,i7,J.sub _ rfl,X⟩ ?_
  intro p1 j3 f9 G j4 e0 U w hLab
  obtain⟨a9,o,b1,e1⟩:=j3
  replace G:bZ a u a9 o b1 e1=some f9:=G
  unfold bZ at G
  try dsimp only at hLab
  obtain⟨a6,a7,a8,p,q,t,e2,J,X⟩:=hLab
  refine nz 1 J rfl fun U J=>wp_seq_k fun p2 j5=>bA J G rfl (fun j6 G=>?_) fun j6 G=>?_
  ·refine wp_skip (j5 _ _ ?_)
   refine wp_seq_k fun p3 j7=>aA fun p4 j8=>ws fun p5 j9=>?_
   obtain⟨b2,g2,G⟩:=bnd G
   refine fG bM sz2 (X.rd 5 rfl) g2 J (fun U J=>?_) rfl
   obtain⟨cs,hV,k0⟩:=el (X.rd 5 rfl) g2
   obtain rfl:=hV
   refine aH uu2 (k0 0 _ rfl) J (fun U J=>?_) rfl
   refine x_m J rfl fun U J=>wn (j9 _ _ ?_)
   refine wp_seq_k fun k1 k2=>?_
   have hj1:∀e3,iQ a o b1 e1 b2 e3=some f9→∀b3 b4 b5 (g3:Imm Z wz (kI .u8) b3 b4 b5 e3) U w,FR 70 [] U [(0,(pP g0)),(1,(pP g1)),(3,.slice k l m),(5,.slice (some ⟨n,0,none⟩) ((a.length:Int).toNat) ((a.length:Int).toNat)),(7,.int .i64 b2),(38,.slice Q R S),(39,.int .i64 (u.1.length:Int)),(40,.int .i64 e1)]→SH r (blk g0 157 [.slice b3 b4 b5]::blk g1 37 [.slice p q t]::own kS 9 p q t o::own kS 9 k l m a::own kB 4 (some ⟨n,0,none⟩) ((a.length:Int).toNat) ((a.length:Int).toNat) b1::own (kI .i64) 2 Q R S u.1::L) w→k1 U w:=by
    intro e3 G b3 b4 b5 g3 U w J X
    unfold iQ at G
    refine k2 _ _ (ws fun p6 k3=>?_)
    refine xk 2 J rfl fun U J=>?_
    obtain⟨p7,g4,G⟩:=bnd G
    refine fG aNp sz4 (X.rd 4 rfl) g4 J (fun U J=>?_) rfl
    refine aFl (z':=true) (off:=0) (vs:=[.bool true]) 4 sz4 J X rfl (dQ g4).2.2 (fun c h=>by cases h; rfl) (fun  U w X J=>?_) rfl rfl rfl rfl rfl rfl rfl rfl
    refine wn (k3 _ _ ?_)
    refine cP [0,0,0,6,14,30,63,127] [5,6,7] rfl J X (by kernel_rfl) (by kernel_rfl) (by kernel_rfl) (by kernel_rfl) fun w X=>?_
    obtain⟨H,g5,G⟩:=bnd G
    obtain⟨cs,hV,k4⟩:=el (X.rd 4 rfl) g5
    obtain rfl:=hV
    refine⟨[(0,.slice p q t),(1,.slice k l m),(2,.int .i64 b2),(3,.pointer (some (ea k (b2.toNat * 1)))),(4,str H)],?_⟩
    refine dF [0,1,2,3,4] [5] (by kernel_rfl) ⟨pt [(1,_)] rfl (fun U J=>cM lG (X.cell 2 rfl 0 _ rfl) J rfl rfl rfl),pm rfl,pm rfl,pt [(58,_),(59,_)] rfl (fun U J=>fH lG sz9 (X.rd 4 rfl) g5 J rfl rfl rfl),pt [(60,_)] rfl (fun U J=>cM uu9 (k4 0 _ rfl) J rfl rfl rfl),trivial⟩ ⟨et [(61,_)] rfl (fun U J K hK=>?_),trivial⟩
    refine gJ (d:=kS) (e:=9) (ps:=#[(0,str H)]) (cells:=[str H]) (xs:=[H]) (fun w=>by kernel_rfl) rfl ⟨[str H],_,rfl,rfl,rfl⟩ J X (fun p8 w X=>?_) rfl
    refine hK _ [] _ rfl (dF [0] [6] (by kernel_rfl) ⟨pt [(1,_)] rfl (fun U J=>cM lG (X.cell 3 rfl 0 _ rfl) J rfl rfl rfl),trivial⟩ ⟨et [(57,_),(62,_)] rfl (fun U J K hK=>?_),trivial⟩)
    obtain⟨k5,G⟩:=aB G
    have hr:=X.rd 0 rfl
    refine cQ 4 aJx lG J X hr.1 hr.2.1 k5 rfl (fun k6 k7 k8 w X=>?_) rfl
    refine hK _ [] _ rfl (dF [] [7] (by kernel_rfl) trivial ⟨et [(1,_),(63,_)] rfl (fun U J K hK=>?_),trivial⟩)
    refine aMo 4 aTx J X rfl (fun  w X=>?_) rfl
    refine hK _ [] _ rfl (gK [] (by kernel_rfl) trivial ⟨by kernel_rfl,by kernel_rfl⟩ [(0,_),(1,_),(3,_),(5,_),(38,_),(39,_),(40,_)] rfl (fun U J=>?_))
    refine j8 _ _ (j7 _ _ ?_)
    refine aC (x_l G J rfl fun p9 _ U J G=>?_)
    refine x_m J rfl fun U J=>wpList_nil ?_
    replace X:=X.drop 2 |>.pk 5 |>.pk 3 |>.pk 5 |>.pk 4 |>.pk 4 |>.pk 5
    cases G
    exact⟨_,j4 _ rfl,b3,b4,b5,k6,k7,k8,g3,J.sub _ rfl,X⟩
   refine aC (xk 4 J rfl fun U J=>?_)
   refine bcG G (fun I G=>?_) fun I G=>?_
   ·refine xg 2 I J rfl rfl fun U J=>aJ I J ?_ rfl
    refine aU lG (X.rd 3 rfl).2.1 J (fun U J=>?_) rfl
    refine xg 2 I J rfl rfl fun U J=>?_
    replace X:=(SH.pure_ e2 X).pk 1
    replace X:=bH (x:=(⟨a9⟩:S157)) X
    refine pA G aAh J rfl (fun _ h=>aQ h X (qz+5) hZ) (fun e4 w X G=>?_) fun e4 v U w hR J G=>?_
    ·replace X:=(qU (x:=o) (X.pk 2 |>.pk 2)).drop 2 |>.drop 2 |>.drop 2 |>.pk 1
     cases G
     have ht:=e0 _ rfl
     subst ht
     replace G:=f7
     replace G:some (.inr (e4,o))=some y:=G
     cases G
     exact hQp _ rfl _ _ J.defers X
    obtain⟨rfl,X⟩:=hR
    obtain⟨k9,l0,l1,X⟩:=aM X
    obtain⟨l2,X⟩:=(X.pk 1).unpure
    exact wpList_nil (hj1 e4.f0 G k9 l0 l1 l2 U w (J.sub _ rfl) X)
   refine xg 5 I J rfl rfl fun U J=>?_
   replace X:=(SH.pure_ e2 X).pk 1
   replace X:=bH (x:=(⟨a9⟩:S157)) X
   refine pA G aAh J rfl (fun _ h=>aQ h X (qz+5) hZ) (fun e5 w X G=>?_) fun e5 v U w hR J G=>?_
   ·replace X:=(qU (x:=o) (X.pk 2 |>.pk 2)).drop 2 |>.drop 2 |>.drop 2 |>.pk 1
    cases G
    have ht:=e0 _ rfl
    subst ht
    replace G:=f7
    replace G:some (.inr (e5,o))=some y:=G
    cases G
    exact hQp _ rfl _ _ J.defers X
   obtain⟨rfl,X⟩:=hR
   obtain⟨l3,l4,l5,X⟩:=aM X
   obtain⟨l6,X⟩:=(X.pk 1).unpure
   exact wpList_nil (hj1 e5.f0 G l3 l4 l5 l6 U w (J.sub _ rfl) X)
  replace X:=X.drop 3 |>.drop 4
  cases G
  exact wp_exit (j2 a9 o b1 (e0 _ rfl) a6 a7 a8 p q t e2 U w (J.sub _ rfl) X)
 obtain⟨l7,l8,G⟩:=bnd G
 have e6:=G
 have l9:∀M N,(.inl (M,N))=l7→∀b6 b7 b8 b9 c0 c1 (g6:Imm Z wz (kI .u8) b6 b7 b8 M) U w,FR 70 [] U [(0,(pP g0)),(1,(pP g1)),(3,.slice b9 c0 c1)]→SH r (blk g0 157 [.slice b6 b7 b8]::blk g1 37 [.slice g i j]::own kS 9 g i j a1::own kS 9 b9 c0 c1 N::L) w→f3 U w:=by
  intro M N ht b6 b7 b8 b9 c0 c1 g6 U w J X
  subst ht
  replace G:jH a1 M N=some y:=G
  unfold jH at G
  exact hb1 M N G b6 b7 b8 b9 c0 c1 g6 U w (J.sub _ rfl) X
 replace X:=(SH.nil_own (d:=kS) (e:=9) X).pk 3 |>.pk 3 |>.pk 3
 refine aD l8 (fun s U w=>∃c2 c3 c4 z A B,Imm Z wz (kI .u8) c2 c3 c4 s.1∧FR 70 [] U [(0,(pP g0)),(1,(pP g1)),(3,.slice z A B),(9,.int .u64 O.1),(10,.int .u64 s.2.2)]∧SH r (blk g0 157 [.slice c2 c3 c4]::blk g1 37 [.slice g i j]::own kS 9 g i j a1::own kS 9 z A B s.2.1::L) w) ⟨h5,h6,h7,none,0,0,h8,J.sub _ rfl,X⟩ ?_
 intro q0 m0 g7 G m1 c5 U w hLab
 obtain⟨e7,c6,e8⟩:=m0
 replace G:cI a1 O e7 c6 e8=some g7:=G
 unfold cI at G
 try dsimp only at hLab
 obtain⟨c2,c3,c4,z,A,B,g8,J,X⟩:=hLab
 refine nz 1 J rfl fun U J=>wp_seq_k fun q1 m2=>bA J G rfl (fun m3 G=>?_) fun m3 G=>?_
 ·refine wp_skip (m2 _ _ ?_)
  refine wp_seq_k fun q2 m4=>aA fun q3 m5=>ws fun q4 m6=>xk 1 J rfl fun U J=>?_
  replace X:=(SH.pure_ g8 X).pk 1
  replace X:=bH (x:=(⟨e7⟩:S157)) X
  refine pA G aZ8 J rfl (fun _ h=>uK h X (qz+3) hZ) (fun b w X G=>?_) fun b v U w hR J G=>?_
  ·replace X:=(qU (x:=a1) (X.pk 2 |>.pk 2)).drop 2 |>.pk 1
   cases G
   have ht:=c5 _ rfl
   subst ht
   replace G:=e6
   replace G:some (.inr (b,a1))=some y:=G
   cases G
   exact hQp _ rfl _ _ J.defers X
  obtain⟨rfl,X⟩:=hR
  obtain⟨q5,q6,q7,X⟩:=aM X
  obtain⟨g9,X⟩:=(X.pk 1).unpure
  refine x_m J rfl fun U J=>wn (m6 _ _ ?_)
  refine wp_seq_k fun m7 m8=>?_
  have hj2:∀e9,fX c6 e8 b e9=some g7→∀c7 c8 c9 (h0:Imm Z wz (kI .u8) c7 c8 c9 e9) U w,FR 70 [] U [(0,(pP g0)),(1,(pP g1)),(3,.slice z A B),(4,str b.1),(9,.int .u64 O.1),(10,.int .u64 e8)]→SH r (blk g0 157 [.slice c7 c8 c9]::blk g1 37 [.slice g i j]::own kS 9 g i j a1::own kS 9 z A B c6::L) w→m7 U w:=by
   intro e9 G c7 c8 c9 h0 U w J X
   unfold fX at G
   refine m8 _ _ (aC ?_)
   refine xk 2 J rfl fun U J=>iM (d:=kS) (e:=9) (ps:=#[(0,str b.1)]) (cells:=[str b.1]) (xs:=[b.1]) (fun w=>by kernel_rfl) rfl ⟨[str b.1],_,rfl,rfl,rfl⟩ J X (fun q8 U w X J=>?_) rfl
   obtain⟨m9,G⟩:=aB G
   have hr:=X.rd 0 rfl
   refine gH 4 aJx lG J X hr.1 hr.2.1 m9 rfl (fun n0 n1 n2 U w X J=>?_) rfl
   refine x_m J rfl fun U J=>wpList_nil (m5 _ _ ?_)
   refine m4 _ _ (aC ?_)
   refine x_l G J rfl fun q9 _ U J G=>x_m J rfl fun U J=>wpList_nil ?_
   replace X:=X.drop 1 |>.pk 3 |>.pk 3 |>.pk 3
   cases G
   exact⟨_,m1 _ rfl,c7,c8,c9,n0,n1,n2,h0,J.sub _ rfl,X⟩
  refine aC (xk 2 J rfl fun U J=>?_)
  refine aU lG (X.rd 3 rfl).2.1 J (fun U J=>?_) rfl
  refine xk 2 J rfl fun U J=>bcG G (fun f G=>?_) fun f G=>?_
  ·refine xg 9 f J rfl rfl fun U J=>?_
   replace X:=bH (x:=b.2) ((SH.pure_ g9 X).pk 1)
   refine pA G aAh J rfl (fun _ h=>aQ h X (qz+3) hZ) (fun f1 w X G=>?_) fun f1 v U w hR J G=>?_
   ·replace X:=(qU (x:=a1) (X.pk 2 |>.pk 2)).drop 2 |>.pk 1
    cases G
    have ht:=c5 _ rfl
    subst ht
    replace G:=e6
    replace G:some (.inr (f1,a1))=some y:=G
    cases G
    exact hQp _ rfl _ _ J.defers X
   obtain⟨rfl,X⟩:=hR
   obtain⟨n3,n4,n5,X⟩:=aM X
   obtain⟨n6,X⟩:=(X.pk 1).unpure
   exact wpList_nil (hj2 f1.f0 G n3 n4 n5 n6 U w (J.sub _ rfl) X)
  refine xg 2 f J rfl rfl fun U J=>aJ f J ?_ rfl
  refine aU lG (X.rd 3 rfl).2.1 J (fun U J=>?_) rfl
  refine aJ f J ?_ rfl
  refine x_l G J rfl fun r0 _ U J G=>aJ f J ?_ rfl
  obtain⟨r1,h1,G⟩:=bnd G
  refine fG lG sz9 (X.rd 3 rfl) h1 J (fun U J=>?_) rfl
  refine aJ f J ?_ rfl
  obtain⟨cs,hV,n7⟩:=el (X.rd 3 rfl) h1
  obtain rfl:=hV
  refine aH uu9 (n7 0 _ rfl) J (fun U J=>?_) rfl
  refine xg 1 f J rfl rfl fun U J=>aJ f J ?_ rfl
  refine x_v J (aHp rfl (J.ev rfl) (J.ev rfl)) rfl fun U J=>xg 1 f J rfl rfl fun U J=>?_
  replace X:=bH (x:=b.2) ((SH.pure_ g9 X).pk 1)
  refine pA G aAh J rfl (fun _ h=>aQ h X (qz+3) hZ) (fun f2 w X G=>?_) fun f2 v U w hR J G=>?_
  ·replace X:=(qU (x:=a1) (X.pk 2 |>.pk 2)).drop 2 |>.pk 1
   cases G
   have ht:=c5 _ rfl
   subst ht
   replace G:=e6
   replace G:some (.inr (f2,a1))=some y:=G
   cases G
   exact hQp _ rfl _ _ J.defers X
  obtain⟨rfl,X⟩:=hR
  obtain⟨n8,n9,o0,X⟩:=aM X
  obtain⟨o1,X⟩:=(X.pk 1).unpure
  exact wpList_nil (hj2 f2.f0 G n8 n9 o0 o1 U w (J.sub _ rfl) X)
 cases G
 exact wp_exit (l9 e7 c6 (c5 _ rfl) c2 c3 c4 z A B g8 U w (J.sub _ rfl) X)
theorem xP {a0 b A0 n0 c0 a y} (G:nW a0 b=some y) (X:SH r (obj37 a b::L) w) (qz:Nat) (hZ:L[qz]?=some (zone Z wz)) (ha0:Imm Z wz (kI .u8) A0 n0 c0 a0) :
  Ret Tryz.prog 75 #[.slice A0 n0 c0,.func (.func 102) #[] #[.pointer (some ⟨a,0,none⟩)]] w fun v w'=>v=.bool y.1∧SH r (obj37 a y.2::L) w':=by
 obtain⟨y',hy,G⟩:=bnd G
 refine Ret.mono_ (aGg (R:=fun v w'=>v=.bool y.1∧SH r (obj37 a y.2::L) w') aZw X (fun g g4 w1 hS1=>?_)) (fun v w' h=>h)
 replace hS1:=bH (x:=⟨a0⟩) (hS1.pk 1 |> fun h=>(SH.pure_ ha0 (h.pk 1)).pk 1)
 replace hS1:=hS1.pk 1
 replace hS1:=hS1.pk 2
 replace hS1:=hS1.pk 2
 rcases y' with y' | y'
 ·replace G:=aQ3 G
  cases G
  left
  refine Ret.mono_ (RetS.lf (uM hy hS1 (qz+1) hZ :)) ?_
  rintro v w2 ⟨rfl,X⟩
  replace X:=X.pk 2 |>.pk 1
  obtain⟨A',n',c',X⟩:=aM X
  have hQ:=SH.unpure (X.pk 1)
  clear X
  obtain⟨hi,X⟩:=hQ
  refine⟨_,A',n',c',X,fun w3 h3=>⟨?_,h3⟩⟩
  rw [← hi.ln]
 ·replace G:=aQi G
  cases G
  right
  refine Calls.mono (RetS.rf (uM hy hS1 (qz+1) hZ :)) ?_
  rintro e w2 ⟨rfl,X⟩
  replace X:=X.pk 2 |>.drop 1
  exact⟨rfl,_,X,fun w3 h3=>⟨rfl,h3⟩⟩
theorem aBz {a0 A0 n0 c0 y} (G:nG a0=some y) (X:SH r (L) w) (qz:Nat) (hZ:L[qz]?=some (zone Z wz)) (ha0:Imm Z wz (kI .u8) A0 n0 c0 a0) :
  Ret Tryz.prog 79 #[.slice A0 n0 c0] w fun v w'=>∃ (B0:Option Addr) (m0:Nat) (d0:Nat),v=.tuple #[(.slice B0 m0 d0),(.int .i64 y.2)]∧SH r (own kS 9 B0 m0 d0 y.1::L) w':=by
 refine enter Tryz.func79 rfl Tryz.ntmps79 [(0,_)] rfl (by simp) ?_
 intro U J Qf hQ hQn
 unfold nG at G
 refine nz 2 J rfl fun U J=>ws fun m a=>gZ (cs:=[.slice none 0 0]) aW3 J X (fun b U w X J=>?_) rfl
 refine wn (a _ _ ?_)
 refine ws fun n c=>xk 1 J rfl fun U J=>x_v J (mL rfl (rW (vals:=#[]) J rfl) (rW (vals:=#[.pointer (some ⟨b,0,none⟩)]) J rfl)) rfl fun U J=>?_
 replace X:=qU (x:=[]) ((SH.nil_own (d:=kS) (e:=9) X).pk 1)
 obtain⟨o,f,G⟩:=bnd G
 refine x_c aWl J rfl (xP f X (qz+0) hZ ha0 :) fun v U w hR J=>?_
 obtain⟨rfl,X⟩:=hR
 obtain⟨g,h,i,X⟩:=aGh X
 refine x_m J rfl fun U J=>wn (c _ _ ?_)
 refine wp_seq_k fun p j=>nz 2 J rfl fun U J=>bA J G rfl (fun k G=>?_) fun k G=>?_
 ·refine nz 2 J rfl fun U J=>?_
  replace X:=(SH.nil_own (d:=kS) (e:=9) X).drop 1 |>.drop 1
  cases G
  refine wp_ret (hQ _ _ ?_)
  exact lv2 Tryz.results79 J rfl rfl ⟨none,0,0,rfl,X⟩
 refine wp_skip (j _ _ ?_)
 refine ws fun q l=>aH lG (X.cell 0 rfl 0 _ rfl) J (fun U J=>?_) rfl
 refine nk 2 J rfl fun U J=>?_
 replace X:=X.drop 0
 cases G
 refine l _ _ (wp_ret ?_)
 refine hQ _ _ (lv2 Tryz.results79 J rfl rfl ?_)
 exact⟨g,h,i,rfl,X⟩
end
end Go.Proofs.YtnefioccdkmegaaGreatDoor.M
namespace Go.Proofs
open Go.RowKit Go.Maps Go.Sort Go.Shelf
def Tryz.sortL_ren:Go.Shelf.Ren:=⟨fun | 190=>113 | 125=>133 | 258=>132 | 128=>147 | 129=>126 | 302=>139 | 303=>140 | 304=>141 | 305=>142 | 306=>143 | 307=>144 | 308=>115 | 309=>145 | 310=>146 | 333=>148 | 329=>149 | 330=>150 | 334=>151 | 335=>152 | 336=>134 | 344=>153 | n=>n,fun | 31=>37 | 9=>9 | 3=>3 | 46=>93 | 0=>0 | 51=>146 | 53=>44 | 4=>4 | 183=>193 | 182=>192 | 131=>60 | 5=>5 | 218=>200 | 222=>204 | 228=>206 | 229=>207 | n=>n,fun | n=>n⟩
theorem Tryz.sortL:Go.Proofs.Lays.n190 Tryz.prog Tryz.sortL_ren:={
 mixed:=by kernel_rfl
 f125:=Tryz.func133.trans (congrArg some (by kernel_rfl))
 f128:=Tryz.func147.trans (congrArg some (by kernel_rfl))
 f129:=Tryz.func126.trans (congrArg some (by kernel_rfl))
 f190:=Tryz.func113.trans (congrArg some (by kernel_rfl))
 f258:=Tryz.func132.trans (congrArg some (by kernel_rfl))
 f302:=Tryz.func139.trans (congrArg some (by kernel_rfl))
 f303:=Tryz.func140.trans (congrArg some (by kernel_rfl))
 f304:=Tryz.func141.trans (congrArg some (by kernel_rfl))
 f305:=Tryz.func142.trans (congrArg some (by kernel_rfl))
 f306:=Tryz.func143.trans (congrArg some (by kernel_rfl))
 f307:=Tryz.func144.trans (congrArg some (by kernel_rfl))
 f308:=Tryz.func115.trans (congrArg some (by kernel_rfl))
 f309:=Tryz.func145.trans (congrArg some (by kernel_rfl))
 f310:=Tryz.func146.trans (congrArg some (by kernel_rfl))
 f329:=Tryz.func149.trans (congrArg some (by kernel_rfl))
 f330:=Tryz.func150.trans (congrArg some (by kernel_rfl))
 f333:=Tryz.func148.trans (congrArg some (by kernel_rfl))
 f334:=Tryz.func151.trans (congrArg some (by kernel_rfl))
 f335:=Tryz.func152.trans (congrArg some (by kernel_rfl))
 f336:=Tryz.func134.trans (congrArg some (by kernel_rfl))
 f344:=Tryz.func153.trans (congrArg some (by kernel_rfl))
 t0:=Tryz.underlying0
 a0:=Tryz.isAgg0
 z0:=Tryz.sizeOf0
 v0:=Tryz.zeroValue0
 t3:=Tryz.underlying3
 a3:=Tryz.isAgg3
 z3:=Tryz.sizeOf3
 v3:=Tryz.zeroValue3
 t4:=Tryz.underlying4
 a4:=Tryz.isAgg4
 z4:=Tryz.sizeOf4
 v4:=Tryz.zeroValue4
 t5:=Tryz.underlying5
 a5:=Tryz.isAgg5
 z5:=Tryz.sizeOf5
 v5:=Tryz.zeroValue5
 t9:=Tryz.underlying9
 a9:=Tryz.isAgg9
 z9:=Tryz.sizeOf9
 v9:=Tryz.zeroValue9
 t31:=Tryz.underlying37
 a31:=Tryz.isAgg37
 z31:=Tryz.sizeOf37
 v31:=Tryz.zeroValue37
 t46:=Tryz.underlying93
 a46:=Tryz.isAgg93
 z46:=Tryz.sizeOf93
 v46:=Tryz.zeroValue93
 t51:=Tryz.underlying146
 a51:=Tryz.isAgg146
 z51:=Tryz.sizeOf146
 v51:=Tryz.zeroValue146
 t53:=Tryz.underlying44
 a53:=Tryz.isAgg44
 z53:=Tryz.sizeOf44
 v53:=Tryz.zeroValue44
 t131:=Tryz.underlying60
 a131:=Tryz.isAgg60
 z131:=Tryz.sizeOf60
 v131:=Tryz.zeroValue60
 t182:=Tryz.underlying192
 a182:=Tryz.isAgg192
 z182:=Tryz.sizeOf192
 v182:=Tryz.zeroValue192
 t183:=Tryz.underlying193
 a183:=Tryz.isAgg193
 z183:=Tryz.sizeOf193
 v183:=Tryz.zeroValue193
 t218:=Tryz.underlying200
 a218:=Tryz.isAgg200
 z218:=Tryz.sizeOf200
 v218:=Tryz.zeroValue200
 t222:=Tryz.underlying204
 a222:=Tryz.isAgg204
 z222:=Tryz.sizeOf204
 v222:=Tryz.zeroValue204
 t228:=Tryz.underlying206
 a228:=Tryz.isAgg206
 z228:=Tryz.sizeOf206
 v228:=Tryz.zeroValue206
 t229:=Tryz.underlying207
 a229:=Tryz.isAgg207
 z229:=Tryz.sizeOf207
 v229:=Tryz.zeroValue207 }
def Tryz.compactL_ren:Go.Shelf.Ren:=⟨fun | 194=>85 | n=>n,fun | 31=>37 | 9=>9 | 3=>3 | 4=>4 | 0=>0 | n=>n,fun | n=>n⟩
theorem Tryz.compactL:Go.Proofs.Lays.n194 Tryz.prog Tryz.compactL_ren:={
 mixed:=by kernel_rfl
 f194:=Tryz.func85.trans (congrArg some (by kernel_rfl))
 t0:=Tryz.underlying0
 a0:=Tryz.isAgg0
 z0:=Tryz.sizeOf0
 v0:=Tryz.zeroValue0
 t3:=Tryz.underlying3
 a3:=Tryz.isAgg3
 z3:=Tryz.sizeOf3
 v3:=Tryz.zeroValue3
 t4:=Tryz.underlying4
 a4:=Tryz.isAgg4
 z4:=Tryz.sizeOf4
 v4:=Tryz.zeroValue4
 t9:=Tryz.underlying9
 a9:=Tryz.isAgg9
 z9:=Tryz.sizeOf9
 v9:=Tryz.zeroValue9
 t31:=Tryz.underlying37
 a31:=Tryz.isAgg37
 z31:=Tryz.sizeOf37
 v31:=Tryz.zeroValue37 }
def Tryz.sortedL_ren:Go.Shelf.Ren:=⟨fun | 6=>86 | 8=>112 | 9=>113 | 11=>131 | 13=>133 | 12=>132 | 23=>147 | 24=>126 | 14=>139 | 15=>140 | 16=>141 | 17=>142 | 18=>143 | 19=>144 | 20=>115 | 21=>145 | 22=>146 | 25=>148 | 26=>149 | 27=>150 | 28=>151 | 29=>152 | 30=>134 | 31=>153 | n=>n,fun | 26=>9 | 28=>141 | 24=>37 | 0=>0 | 3=>3 | 37=>93 | 48=>146 | 50=>44 | 4=>4 | 40=>193 | 39=>192 | 45=>60 | 5=>5 | 9=>9 | 51=>200 | 55=>204 | 57=>206 | 58=>207 | 33=>73 | n=>n,fun | n=>n⟩
theorem Tryz.sortedL:Go.Proofs.SlLaysZ.n6 Tryz.prog Tryz.sortedL_ren:={
 mixed:=by kernel_rfl
 f6 := ⟨"slices.Sorted[string]", by decide, Tryz.func86.trans (congrArg some (by kernel_rfl))⟩
 f8 := ⟨"slices.Collect[string]", by decide, Tryz.func112.trans (congrArg some (by kernel_rfl))⟩
 f11 := ⟨"slices.AppendSeq[[]string,string]", by decide, Tryz.func131.trans (congrArg some (by kernel_rfl))⟩
 t0:=Tryz.underlying0
 a0:=Tryz.isAgg0
 z0:=Tryz.sizeOf0
 v0:=Tryz.zeroValue0
 t24:=Tryz.underlying37
 a24:=Tryz.isAgg37
 z24:=Tryz.sizeOf37
 v24:=Tryz.zeroValue37
 t26:=Tryz.underlying9
 a26:=Tryz.isAgg9
 z26:=Tryz.sizeOf9
 v26:=Tryz.zeroValue9
 t28:=Tryz.underlying141
 a28:=Tryz.isAgg141
 z28:=Tryz.sizeOf141
 v28:=Tryz.zeroValue141
 i26:=by kernel_rfl }
set_option maxRecDepth 100000 in
set_option maxHeartbeats 2000000 in
theorem aJw (n:Nat) (hn:1≤n) (l Bx B:Nat) (W0:World) (A:Option Addr) (c:Nat) (xs:List (List UInt8)) (hl:xs.length≤4611686018427387904) (J:List (List UInt8)→World→Prop)
  (hJB:∀ ss W1,J ss W1→Below B W0 W1) (hBx:Bx<B) (hbox:W0.cell? ⟨Bx,0,none⟩=some (.slice A xs.length c))
  (hrow:0<xs.length→∃ b off,A=some ⟨b,off,none⟩∧b<B∧∀ j x,xs[j]?=some x→W0.cell? ⟨b,off+j,none⟩=some (encStr x))
  (hY:∀ pre x W1,J pre W1→pre.length<xs.length→YieldAt Fence.wide (n - 1) Tryz.prog l #[encStr x] W1 fun e W'=>e=.returned (.bool true)∧J (pre++[x]) W'∧KeepsWalks W1 W')
  (W:World) (h0:J [] W) :
  CallsIn Fence.wide n Tryz.prog 114 #[.func (.yield l) #[] #[],.pointer (some ⟨Bx,0,none⟩)] W fun e W'=>(∃ v,e=.returned v)∧J xs W':=by
 have hb1:=(hJB _ _ h0)
 have hx0:W.cell? ⟨Bx,0,none⟩=some (.slice A xs.length c):=(hb1.cell (p:=⟨Bx,0,none⟩) hBx).trans hbox
 refine callsIn_of_wp Tryz.func114 rfl trivial ?_ rfl
 simp only [Tryz.ntmps114,List.size_toArray,List.length_cons,List.length_nil,Nat.reduceAdd,Nat.reduceSub,Array.replicate_succ,Array.replicate_zero,List.push_toArray,List.append_toArray,List.nil_append,List.cons_append]
 gi_wp2
 gi_loopw [7] (fun s7 wr=>∃ k:Nat,s7=.int .i64 k∧k≤xs.length∧J (xs.take k) wr) (fun s7 _=>match s7 with | .int .i64 k=>(xs.length:Int).toNat - k.toNat | _=>0)
 case atStart=>exact⟨0,rfl,Nat.zero_le _,by simpa using h0⟩
 case round =>
  obtain⟨k,rfl,hk,hJk⟩:=hrel
  by_cases hlt:k<xs.length
  ·obtain⟨b,off,rfl,hb,hcell⟩:=hrow (by omega)
   have hx:=List.getElem?_eq_getElem hlt
   have hc:=((hJB _ _ hJk).cell (p:=⟨b,off+k,none⟩) hb).trans (hcell k _ hx)
   obtain⟨x,hxx⟩:∃ x,x=xs[k]:=⟨_,rfl⟩
   rw [← hxx] at hc hx
   have hkl:(xs.take k).length=k:=by simp; omega
   obtain⟨fn,tmps,assign,body,hy,hR⟩:=hY (xs.take k) x wr hJk (by omega)
   clear hrow hcell hxx
   gi_wp2
   refine hR.mono ?_
   rintro e W3 ⟨rfl,hJ3,hk3⟩
   gi_wp2
   go_roundw
   case rel=>exact⟨k+1,by simp,by omega,by rw [List.take_add_one,hx]; exact hJ3⟩
   case measure=>simp; omega
  ·have:k=xs.length:=by omega
   subst this
   gi_wp2
   go_end0
   exact⟨⟨_,rfl⟩,by simpa using hJk⟩
set_option maxRecDepth 100000 in
set_option maxHeartbeats 2000000 in
theorem aDg (Bx:Nat) (w:World) (A:Option Addr) (c:Nat) (xs:List (List UInt8)) (hl:xs.length * 16≤140737488355328) (hBx:Bx<w.heap.size) (hbox:w.cell? ⟨Bx,0,none⟩=some (.slice A xs.length c))
  (hrow:0<xs.length→∃ b off,A=some ⟨b,off,none⟩∧b<w.heap.size∧∀ j x,xs[j]?=some x→w.cell? ⟨b,off+j,none⟩=some (encStr x)) :
  Calls Tryz.prog 131 #[.slice none 0 0,.func (.func 114) #[] #[.pointer (some ⟨Bx,0,none⟩)]] w fun e w'=>∃ v,e=.returned v∧w'.ownsRow w.heap.size 9 1 v xs.length (xs.map encStr)∧(v=.slice none 0 0↔xs=[])∧Below w.heap.size w w':=by
 refine (callsIn_wide (n:=5)).1 ?_
 obtain⟨sv,hsv⟩:∃ sv:Value,sv=.func (.func 114) #[] #[.pointer (some ⟨Bx,0,none⟩)]:=⟨_,rfl⟩
 have hsv':=hsv
 refine callsIn_of_wp_marks Tryz.func131 rfl trivial ?_ rfl
 simp only [Tryz.ntmps131,List.size_toArray,List.length_cons,List.length_nil,Nat.reduceAdd,Nat.reduceSub,Array.replicate_succ,Array.replicate_zero,List.push_toArray,List.append_toArray,List.nil_append,List.cons_append]
 gi_wp2
 refine wpIn_rangeFunc ?_
 intro fn hfn
 rw [show Fence.wide.round=none from rfl]
 let ρ:=Tryz.sortedL_ren
 obtain⟨W0,hW0⟩:∃ W0,w.alloc (.cells #[.slice none 0 0] 37)=W0:=⟨_,rfl⟩
 have hs0:W0.heap.size=w.heap.size+1:=by rw [← hW0]; simp
 have hv0:W0.heap[w.heap.size]?=some (.cells #[.slice none 0 0] 37 (0,0)):=by rw [← hW0]; exact World.alloc_heap_new w _
 have hb0:Below w.heap.size w W0:=by rw [← hW0]; exact (Below.refl _ w).alloc (Nat.le_refl _) _
 rw [hW0]
 obtain⟨W1,hW1⟩:∃ W1,(W0.alloc (.deferred (some []))).alloc (.loop (AnyZ.apRec ρ fn sv w.heap.size W0.heap.size .ready none))=W1:=⟨_,rfl⟩
 have hold:∀ k,k<W0.heap.size→W1.heap[k]?=W0.heap[k]?:=fun k hk=>by
  rw [← hW1]; exact (Below.heap_alloc _ _ k (by simp; omega)).trans (Below.heap_alloc _ _ k hk)
 have hb1:Below w.heap.size w W1:=by rw [← hW1]; exact (hb0.alloc hb0.size _).alloc (by have:=hb0.size; simp; omega) _
 have hM:AnyZ.ApAt ρ w fn sv w.heap.size (W0.heap.size+1) W0.heap.size [] W1 :=
  ⟨⟨_,(hold w.heap.size (by omega)).trans hv0,⟨rfl,.inl ⟨rfl,rfl⟩⟩,by simp⟩,
   by rw [← hW1]; have:=World.alloc_heap_new (W0.alloc (.deferred (some []))) (.loop (AnyZ.apRec ρ fn sv w.heap.size W0.heap.size .ready none)); rwa [World.size_alloc] at this,
   by rw [← hW1]; exact (Below.heap_alloc _ _ _ (by simp)).trans (World.alloc_heap_new W0 _),hb1⟩
 refine⟨W0.heap.size+1,[{ target:=.collected W0.heap.size,args:=#[] }],W1,{ target:=.fn (.func 114) #[.pointer (some ⟨Bx,0,none⟩)],args:=#[.func (.yield (W0.heap.size+1)) #[] #[]] },W1,114,
  #[.func (.yield (W0.heap.size+1)) #[] #[]]++#[.pointer (some ⟨Bx,0,none⟩)],W1,?_,?_,?_,?_,fun _=>by omega,?_⟩
 ·rw [← hW1,hsv]; exact run_enterLoop_outer _ _ _ _ _
 ·simp [resolve,go_sem]
 ·intro f' hf'; trivial
 ·simp [invoke,go_sem]
 ·have hcur:=AnyZ.apYield (ρ:=ρ) (P:=Tryz.prog) { Tryz.sortedL with } Fence.wide 3 w fn hfn sv w.heap.size (W0.heap.size+1) W0.heap.size (by omega) (by omega) (by omega) (Nat.le_refl _) (by omega) xs.length (by unfold maxLen; omega) hl
  refine (aJw 4 (by omega) (W0.heap.size+1) Bx w.heap.size w A c xs (by omega) (AnyZ.ApAt ρ w fn sv w.heap.size (W0.heap.size+1) W0.heap.size) (fun ss W1 h=>h.below) hBx hbox hrow
   (fun pre x W hJ hlt=>hcur pre x W hJ hlt) W1 hM).mono ?_
  rintro e W2 ⟨⟨v0,rfl⟩,h2⟩
  obtain⟨v,hv,hr,hnil⟩:=h2.box
  have hend:=run_endLoop (P:=Tryz.prog) h2.L (by simp [AnyZ.apRec])
  obtain⟨W3,hW3⟩:∃ W3,W2.putObj (W0.heap.size+1) (.loop { AnyZ.apRec ρ fn sv w.heap.size W0.heap.size .ready none with state:=.exhausted })=W3:=⟨_,rfl⟩
  rw [hW3] at hend
  have hg3:W2.grownBy W3 (some (W0.heap.size+1)):=by rw [← hW3]; exact grownBy_putObj_a _ _ _
  have hv3:W3.heap[w.heap.size]?=some (.cells #[v] 37 (0,0)):=by rw [← hW3]; exact (World.putObj_heap_other (by omega)).trans hv
  have hK3:W3.heap[W0.heap.size]?=some (.deferred (some [])):=by rw [← hW3]; exact (World.putObj_heap_other (by omega)).trans h2.K
  have hr3:=hr.kept hg3 (ownsRow_ne_a hr h2.L (fun cur e=>by cases e))
  have hb3:Below w.heap.size w W3:=h2.below.grown hg3 h2.below.size (fun k e=>by cases e; omega)
  obtain⟨hc3,hf3⟩:=cell_of_box_a hv3
  clear hW3
  refine⟨none,W3,hend,?_⟩
  gi_wp2
  rw [← hs0]
  refine⟨by simp,.inl ⟨_,_,rfl,run_takeDeferred hK3,?_⟩⟩
  exact⟨_,results_tmp rfl _ _ _,v,rfl,hr3.kept (grownBy_putObj_a _ _ _) (ownsRow_ne_a hr3 hK3 (fun cur e=>by cases e)),hnil,hb3.grown (grownBy_putObj_a _ _ _) hb3.size (fun k e=>by cases e; omega)⟩
set_option maxRecDepth 100000 in
set_option maxHeartbeats 2000000 in
theorem aFs (Bx:Nat) (w:World) (A:Option Addr) (c:Nat) (xs:List (List UInt8)) (hl:xs.length * 16≤140737488355328) (hBx:Bx<w.heap.size) (hbox:w.cell? ⟨Bx,0,none⟩=some (.slice A xs.length c))
  (hrow:0<xs.length→∃ b off,A=some ⟨b,off,none⟩∧b<w.heap.size∧∀ j x,xs[j]?=some x→w.cell? ⟨b,off+j,none⟩=some (encStr x)) :
  Calls Tryz.prog 112 #[.func (.func 114) #[] #[.pointer (some ⟨Bx,0,none⟩)]] w fun e w'=>∃ v,e=.returned v∧w'.ownsRow w.heap.size 9 1 v xs.length (xs.map encStr)∧(v=.slice none 0 0↔xs=[])∧Below w.heap.size w w':=by
 refine (callsIn_wide (n:=6)).1 ?_
 have cS:=(callsIn_wide (n:=5)).2 (aDg Bx w A c xs hl hBx hbox hrow)
 refine callsIn_of_wp Tryz.func112 rfl trivial ?_ rfl
 simp only [Tryz.ntmps112,List.size_toArray,List.length_cons,List.length_nil,Nat.reduceAdd,Nat.reduceSub,Array.replicate_succ,Array.replicate_zero,List.push_toArray,List.append_toArray,List.nil_append,List.cons_append]
 have hfS:Fence.wide.fn 131:=trivial
 gi_wp2_with (gi_at_call 131; refine cS.mono ?_; rintro e w' ⟨v,rfl,hr,hnil,hb⟩)
 go_ret
 exact⟨v,rfl,hr,hnil,hb⟩
set_option maxRecDepth 100000 in
set_option maxHeartbeats 2000000 in
theorem aGu (Bx:Nat) (w:World) (A:Option Addr) (c:Nat) (xs:List (List UInt8)) (hl:xs.length * 16≤140737488355328) (hBx:Bx<w.heap.size) (hbox:w.cell? ⟨Bx,0,none⟩=some (.slice A xs.length c))
  (hrow:0<xs.length→∃ b off,A=some ⟨b,off,none⟩∧b<w.heap.size∧∀ j x,xs[j]?=some x→w.cell? ⟨b,off+j,none⟩=some (encStr x)) :
  Calls Tryz.prog 86 #[.func (.func 114) #[] #[.pointer (some ⟨Bx,0,none⟩)]] w fun e w'=>∃ v,e=.returned v∧w'.ownsRow w.heap.size 9 1 v xs.length ((xs.mergeSort fun x y=>decide (x≤y)).map encStr)∧(v=.slice none 0 0↔xs=[])∧Below w.heap.size w w':=by
 refine (callsIn_wide (n:=7)).1 ?_
 have cS:=(callsIn_wide (n:=6)).2 (aFs Bx w A c xs hl hBx hbox hrow)
 refine callsIn_of_wp Tryz.func86 rfl trivial ?_ rfl
 simp only [Tryz.ntmps86,List.size_toArray,List.length_cons,List.length_nil,Nat.reduceAdd,Nat.reduceSub,Array.replicate_succ,Array.replicate_zero,List.push_toArray,List.append_toArray,List.nil_append,List.cons_append]
 have hfS:Fence.wide.fn 112:=trivial
 have hfT:Fence.wide.fn 113:=trivial
 gi_wp2_with (gi_at_call 112; refine cS.mono ?_; rintro e W ⟨v,rfl,hr,hnil,hb⟩)
 rcases hr.2 with ⟨rfl,hz⟩ | ⟨gb,cap,cur,rfl,hbase,hgb,r1,r2,r3,r4⟩
 ·have hss:xs=[]:=List.eq_nil_of_length_eq_zero hz
  subst hss
  have cT:=(callsIn_wide (n:=6)).2 (Any.slices_Sort_string_none Tryz.sortL none 0 W)
  change CallsIn _ _ Tryz.prog 113 _ _ _ at cT
  gi_wp2_with (gi_at_call 113; refine cT.mono ?_; rintro e w' ⟨rfl,rfl⟩)
  go_ret
  exact⟨_,rfl,by simpa using hr,by simp,hb⟩
 ·have hH:Holds encStr W gb 0 xs.toArray:=holds_of_block hgb (by simpa using r4)
  have hgl:gb<W.heap.size:=(Array.getElem?_eq_some_iff.1 hgb).1
  have cT:=(callsIn_wide (n:=6)).2 (Any.slices_Sort_string Tryz.sortL gb 0 cap xs W hH hgl (by omega))
  change CallsIn _ _ Tryz.prog 113 _ _ _ at cT
  gi_wp2_with (gi_at_call 113; refine cT.mono ?_; rintro e w' ⟨rfl,nn,os,rfl⟩)
  go_ret
  exact⟨_,rfl,ownsRow_sorted (by simp) hbase hgb r1 r2 r3,hnil,hb.grown (grownBy_sorted _) hb.size (fun j hj=>by cases hj; exact hbase)⟩
end Go.Proofs
