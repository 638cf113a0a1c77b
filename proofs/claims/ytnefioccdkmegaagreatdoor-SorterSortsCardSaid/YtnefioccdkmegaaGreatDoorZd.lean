/- Texts of the claim, joined: what it uses of Mcr, Drf, Mrf, Drg, Mrg, Dtx, Mtx, Va. -/
import Derived.Test.YtnefioccdkmegaaGreatDoorZc
import Derived.Test.YtnefioccdkmegaaGreatDoorProg
import Derived.Shelf.SlIter.Sorted
import Derived.Shelf.Sort.Plain
import Derived.Shelf.Slices.In.SortNone
import Derived.Shelf.Slices.CompactS
import Derived.KernelRfl
namespace Go.Proofs.YtnefioccdkmegaaGreatDoor.M
open Go Go.RowKit Go.Proofs.YtnefioccdkmegaaGreatDoor.E
set_option linter.unusedVariables false
set_option maxRecDepth 100000
set_option maxHeartbeats 4000000
set_option linter.unusedSimpArgs false
section
variable {r:World} {L:List HP} {w:World} {Z:Nat→Prop} {wz:World}
theorem aQ {a0 a1 g0 y} (G:aL a0 a1=some y) (X:SH r (obj157 Z wz g0 a0::L) w) (qz:Nat) (hZ:L[qz]?=some (zone Z wz)) :
  RetS Tryz.prog 99 #[.pointer (some ⟨g0,0,none⟩),.bool a1] w aC3 y (fun y v w'=>v=.tuple #[]∧SH r (obj157 Z wz g0 y::L) w') (fun y w'=>SH r (obj157 Z wz g0 y::L) w'):=by
 refine xB Tryz.func99 rfl Tryz.ntmps99 [(0,_),(1,_)] rfl (by simp) ?_
 intro U J Qf hQ hQn hQp
 unfold aL at G
 obtain⟨C,H,I,X⟩:=aM X
 obtain⟨h,X⟩:=(X.pk 1).unpure
 refine nz 2 J rfl fun U J=>bA J G rfl (fun z G=>?_) fun z G=>?_
 ·refine aC (x_v (v:=.agg #[]) J (pS (ps:=#[]) rfl (sS J rfl) (fun w=>by kernel_rfl)) rfl fun U J=>?_)
  refine x_v J (aNi bAi rfl rfl (J.ev rfl)) rfl fun U J=>aRx J ?_ rfl
  replace X:=bH (x:=a0) ((SH.pure_ h X).pk 1)
  cases G
  exact hQp _ rfl _ _ J.defers X
 replace X:=bH (x:=a0) ((SH.pure_ h X).pk 1)
 cases G
 refine wp_skip (hQn _ rfl _ _ ?_)
 exact aCo Tryz.results99 J ⟨rfl,X⟩
theorem pM {a0 g0 y} (G:fJ a0=some y) (X:SH r (obj157 Z wz g0 a0::L) w) (qz:Nat) (hZ:L[qz]?=some (zone Z wz)) :
  RetS Tryz.prog 119 #[.pointer (some ⟨g0,0,none⟩)] w aC3 y (fun y v w'=>v=.int .u8 y.1∧SH r (obj157 Z wz g0 y.2::L) w') (fun y w'=>SH r (obj157 Z wz g0 y::L) w'):=by
 refine xB Tryz.func119 rfl Tryz.ntmps119 [(0,_)] rfl (by simp) ?_
 intro U J Qf hQ hQn hQp
 unfold fJ at G
 obtain⟨b3,b4,b5,X⟩:=aM X
 obtain⟨H,X⟩:=(X.pk 1).unpure
 refine nz 1 J rfl fun U J=>ws fun b6 S=>xk 3 J rfl fun U J=>aK qE J (fun U J=>?_) rfl
 refine aG eZ (X.cell 0 rfl 0 _ rfl) J (fun U J=>?_) rfl
 refine aU eZ (X.rdl 1 (H.rdl qz hZ) rfl).2.1 J (fun U J=>?_) rfl
 refine xk 1 J rfl fun U J=>?_
 replace X:=bH (x:=a0) ((SH.pure_ H X).pk 1)
 refine pO G aAk J rfl (fun _ h=>aQ h X (qz+0) hZ) (fun Y w X G=>?_) fun Y v U w hR J G=>?_
 ·cases G
  exact hQp _ rfl _ _ J.defers X
 obtain⟨rfl,X⟩:=hR
 obtain⟨b7,b8,b9,X⟩:=aM X
 obtain⟨z,X⟩:=(X.pk 1).unpure
 refine wn (S _ _ ?_)
 refine ws fun c0 a1=>xk 2 J rfl fun U J=>aK qE J (fun U J=>?_) rfl
 refine aG eZ (X.cell 0 rfl 0 _ rfl) J (fun U J=>?_) rfl
 obtain⟨c3,I,G⟩:=bnd G
 refine fG eZ sz5 (X.rdl 1 (z.rdl qz hZ) rfl) I J (fun U J=>?_) rfl
 obtain⟨cs,hV,a2⟩:=el (X.rdl 1 (z.rdl qz hZ) rfl) I
 obtain rfl:=hV
 refine aG uu5 (a2 0 _ rfl) J (fun U J=>?_) rfl
 refine x_m J rfl fun U J=>wn (a1 _ _ ?_)
 refine ws fun c4 a3=>xk 3 J rfl fun U J=>aK qE J (fun U J=>?_) rfl
 refine aG eZ (X.cell 0 rfl 0 _ rfl) J (fun U J=>?_) rfl
 obtain⟨a4,C,G⟩:=bnd G
 obtain⟨a5,a6,a7,a8,a9⟩:=aGe z C
 refine x_v (v:=.slice a5 a6 a7) J (aFm a8 (kQ eZ sz5 rfl (J.ev rfl) (J.ev rfl) (tE (X.rdl 1 (z.rdl qz hZ) rfl) C).1 (tE (X.rdl 1 (z.rdl qz hZ) rfl) C).2.2.2.2.2)) rfl fun U J=>xk 1 J rfl fun U J=>aK qE J (fun U J=>?_) rfl
 refine dE 0 aDd J X rfl (fun  U w X J=>?_) rfl
 refine wn (a3 _ _ ?_)
 refine nz 2 J rfl fun U J=>?_
 replace X:=(SH.pure_ a9 X).pk 1
 replace X:=bH (x:=(⟨a4⟩:S157)) X
 cases G
 refine wp_ret (hQ _ rfl _ _ ?_)
 exact lv Tryz.results119 J rfl ⟨rfl,X⟩
theorem jF {a0 a1 g0 y} (G:eS a0 a1=some y) (X:SH r (obj157 Z wz g0 a0::L) w) (qz:Nat) (hZ:L[qz]?=some (zone Z wz)) :
  RetS Tryz.prog 98 #[.pointer (some ⟨g0,0,none⟩),.int .u64 a1] w aC3 y (fun y v w'=>v=.int .u64 y.1∧SH r (obj157 Z wz g0 y.2::L) w') (fun y w'=>SH r (obj157 Z wz g0 y::L) w'):=by
 refine xB Tryz.func98 rfl Tryz.ntmps98 [(0,_),(1,_)] rfl (by simp) ?_
 intro U J Qf hQ hQn hQp
 unfold eS at G
 obtain⟨d3,d4,d5,X⟩:=aM X
 obtain⟨d6,X⟩:=(X.pk 1).unpure
 refine nz 1 J rfl fun U J=>nz 1 J rfl fun U J=>nz 1 J rfl fun U J=>aA fun h8 h9=>?_
 obtain⟨i0,d7,G⟩:=bnd G
 have z:=G
 refine aD d7 (fun s U w=>∃a9 b3 b4,Imm Z wz (kI .u8) a9 b3 b4 s.1∧FR 48 [] U [(0,(pP g0)),(1,.int .u64 a1),(5,.int .u64 s.2.1),(6,.int .i64 s.2.2)]∧SH r (blk g0 157 [.slice a9 b3 b4]::L) w) ⟨d3,d4,d5,d6,J.sub _ rfl,X⟩ ?_
 intro i1 d8 b5 G d9 C U w hLab
 obtain⟨d1,b6,b7⟩:=d8
 replace G:eB a1 d1 b6 b7=some b5:=G
 unfold eB at G
 try dsimp only at hLab
 obtain⟨a9,b3,b4,e0,J,X⟩:=hLab
 refine wp_seq_k fun i2 e1=>aA fun i3 e2=>ws fun i4 e3=>xk 1 J rfl fun U J=>?_
 replace X:=(SH.pure_ e0 X).pk 1
 replace X:=bH (x:=(⟨d1⟩:S157)) X
 refine pO G aSl J rfl (fun _ h=>pM h X (qz+0) hZ) (fun H w X G=>?_) fun H v U w hR J G=>?_
 ·cases G
  have ht:=C _ rfl
  subst ht
  replace G:=z
  replace G:some (.inr H)=some y:=G
  cases G
  exact hQp _ rfl _ _ J.defers X
 obtain⟨rfl,X⟩:=hR
 obtain⟨i5,i6,i7,X⟩:=aM X
 obtain⟨b8,X⟩:=(X.pk 1).unpure
 refine x_m J rfl fun U J=>wn (e3 _ _ ?_)
 refine wp_seq_k fun e4 e5=>?_
 have hj1:∀Y,dZ a1 b6 b7 H Y=some b5→∀a6 a7 a8 (a2:Imm Z wz (kI .u8) a6 a7 a8 Y) U w,FR 48 [] U [(0,(pP g0)),(1,.int .u64 a1),(5,.int .u64 b6),(6,.int .i64 b7),(7,.int .u8 H.1)]→SH r (blk g0 157 [.slice a6 a7 a8]::L) w→e4 U w:=by
  intro Y G a6 a7 a8 a2 U w J X
  unfold dZ at G
  refine e5 _ _ (ws fun i8 e6=>?_)
  refine xk 2 J rfl fun U J=>x_l G J rfl fun i9 _ U J G=>gE G J (aY uu5 lT rfl (J.ev rfl)) rfl fun j0 _ U J G=>x_m J rfl fun U J=>x_l G J rfl fun j1 _ U J G=>?_
  obtain⟨e7,G⟩:=aB G
  refine gE G J (aGr rfl (J.ev rfl) (J.ev rfl) e7) rfl fun j2 _ U J G=>x_l G J rfl fun b9 _ U J G=>x_m J rfl fun U J=>wn (e6 _ _ ?_)
  refine nz 2 J rfl fun U J=>bA J G rfl (fun e8 G=>?_) fun e8 G=>?_
  ·refine wp_seq_k fun e9 f2=>?_
   have hj2:∀a3,iO b9 a3=some b5→∀c0 c3 c4 (d2:Imm Z wz (kI .u8) c0 c3 c4 a3) U w,FR 48 [] U [(0,(pP g0)),(5,.int .u64 b9)]→SH r (blk g0 157 [.slice c0 c3 c4]::L) w→e9 U w:=by
    intro a3 G c0 c3 c4 d2 U w J X
    unfold iO at G
    refine f2 _ _ (nz 2 J rfl fun U J=>?_)
    replace X:=(SH.pure_ d2 X).pk 1
    replace X:=bH (x:=(⟨a3⟩:S157)) X
    cases G
    refine wp_ret ?_
    have ht:=C _ rfl
    subst ht
    replace G:=z
    replace G:some (.inl (b9,(⟨a3⟩:S157)))=some y:=G
    cases G
    refine hQ _ rfl _ _ (lv Tryz.results98 J rfl ?_)
    exact⟨rfl,X⟩
   refine aC (xk 5 J rfl fun U J=>?_)
   refine bcG G (fun I G=>?_) fun I G=>?_
   ·refine xg 3 I J rfl rfl fun U J=>bcG G (fun a4 G=>?_) fun a4 G=>?_
    ·refine xg 2 a4 J rfl rfl fun U J=>aJ I J ?_ rfl
     refine xg 1 a4 J rfl rfl fun U J=>xg 1 I J rfl rfl fun U J=>?_
     replace X:=(SH.pure_ a2 X).pk 1
     replace X:=bH (x:=(⟨Y⟩:S157)) X
     refine pO G aAk J rfl (fun _ h=>aQ h X (qz+0) hZ) (fun c5 w X G=>?_) fun c5 v U w hR J G=>?_
     ·cases G
      have ht:=C _ rfl
      subst ht
      replace G:=z
      replace G:some (.inr c5)=some y:=G
      cases G
      exact hQp _ rfl _ _ J.defers X
     obtain⟨rfl,X⟩:=hR
     obtain⟨f3,f4,f5,X⟩:=aM X
     obtain⟨f6,X⟩:=(X.pk 1).unpure
     exact wpList_nil (hj2 c5.f0 G f3 f4 f5 f6 U w (J.sub _ rfl) X)
    refine xg 2 a4 J rfl rfl fun U J=>aJ I J ?_ rfl
    refine xg 1 a4 J rfl rfl fun U J=>xg 1 I J rfl rfl fun U J=>?_
    replace X:=(SH.pure_ a2 X).pk 1
    replace X:=bH (x:=(⟨Y⟩:S157)) X
    refine pO G aAk J rfl (fun _ h=>aQ h X (qz+0) hZ) (fun c6 w X G=>?_) fun c6 v U w hR J G=>?_
    ·cases G
     have ht:=C _ rfl
     subst ht
     replace G:=z
     replace G:some (.inr c6)=some y:=G
     cases G
     exact hQp _ rfl _ _ J.defers X
    obtain⟨rfl,X⟩:=hR
    obtain⟨f7,f8,f9,X⟩:=aM X
    obtain⟨g1,X⟩:=(X.pk 1).unpure
    exact wpList_nil (hj2 c6.f0 G f7 f8 f9 g1 U w (J.sub _ rfl) X)
   refine xg 7 I J rfl rfl fun U J=>?_
   replace X:=(SH.pure_ a2 X).pk 1
   replace X:=bH (x:=(⟨Y⟩:S157)) X
   refine pO G aAk J rfl (fun _ h=>aQ h X (qz+0) hZ) (fun c7 w X G=>?_) fun c7 v U w hR J G=>?_
   ·cases G
    have ht:=C _ rfl
    subst ht
    replace G:=z
    replace G:some (.inr c7)=some y:=G
    cases G
    exact hQp _ rfl _ _ J.defers X
   obtain⟨rfl,X⟩:=hR
   obtain⟨g2,g3,g4,X⟩:=aM X
   obtain⟨g5,X⟩:=(X.pk 1).unpure
   exact wpList_nil (hj2 c7.f0 G g2 g3 g4 g5 U w (J.sub _ rfl) X)
  refine wp_skip (e2 _ _ ?_)
  refine e1 _ _ (aC ?_)
  refine x_m J rfl fun U J=>x_l G J rfl fun j3 _ U J G=>x_m J rfl fun U J=>wpList_nil ?_
  cases G
  exact⟨_,d9 _ rfl,a6,a7,a8,a2,J.sub _ rfl,X⟩
 refine aC (xk 4 J rfl fun U J=>?_)
 refine bcG G (fun S G=>?_) fun S G=>?_
 ·refine xg 7 S J rfl rfl fun U J=>?_
  replace X:=bH (x:=H.2) ((SH.pure_ b8 X).pk 1)
  refine pO G aAk J rfl (fun _ h=>aQ h X (qz+0) hZ) (fun c8 w X G=>?_) fun c8 v U w hR J G=>?_
  ·cases G
   have ht:=C _ rfl
   subst ht
   replace G:=z
   replace G:some (.inr c8)=some y:=G
   cases G
   exact hQp _ rfl _ _ J.defers X
  obtain⟨rfl,X⟩:=hR
  obtain⟨g6,g7,g8,X⟩:=aM X
  obtain⟨g9,X⟩:=(X.pk 1).unpure
  exact wpList_nil (hj1 c8.f0 G g6 g7 g8 g9 U w (J.sub _ rfl) X)
 refine xg 3 S J rfl rfl fun U J=>bcG G (fun a5 G=>?_) fun a5 G=>?_
 ·refine xg 2 a5 J rfl rfl fun U J=>aJ S J ?_ rfl
  refine xg 1 a5 J rfl rfl fun U J=>xg 1 S J rfl rfl fun U J=>?_
  replace X:=bH (x:=H.2) ((SH.pure_ b8 X).pk 1)
  refine pO G aAk J rfl (fun _ h=>aQ h X (qz+0) hZ) (fun c9 w X G=>?_) fun c9 v U w hR J G=>?_
  ·cases G
   have ht:=C _ rfl
   subst ht
   replace G:=z
   replace G:some (.inr c9)=some y:=G
   cases G
   exact hQp _ rfl _ _ J.defers X
  obtain⟨rfl,X⟩:=hR
  obtain⟨h0,h1,h2,X⟩:=aM X
  obtain⟨h3,X⟩:=(X.pk 1).unpure
  exact wpList_nil (hj1 c9.f0 G h0 h1 h2 h3 U w (J.sub _ rfl) X)
 refine xg 2 a5 J rfl rfl fun U J=>aJ S J ?_ rfl
 refine xg 1 a5 J rfl rfl fun U J=>xg 1 S J rfl rfl fun U J=>?_
 replace X:=bH (x:=H.2) ((SH.pure_ b8 X).pk 1)
 refine pO G aAk J rfl (fun _ h=>aQ h X (qz+0) hZ) (fun d0 w X G=>?_) fun d0 v U w hR J G=>?_
 ·cases G
  have ht:=C _ rfl
  subst ht
  replace G:=z
  replace G:some (.inr d0)=some y:=G
  cases G
  exact hQp _ rfl _ _ J.defers X
 obtain⟨rfl,X⟩:=hR
 obtain⟨h4,h5,h6,X⟩:=aM X
 obtain⟨h7,X⟩:=(X.pk 1).unpure
 exact wpList_nil (hj1 d0.f0 G h4 h5 h6 h7 U w (J.sub _ rfl) X)
theorem mQ {a0 g0 y} (G:fV a0=some y) (X:SH r (obj157 Z wz g0 a0::L) w) (qz:Nat) (hZ:L[qz]?=some (zone Z wz)) :
  RetS Tryz.prog 121 #[.pointer (some ⟨g0,0,none⟩)] w aC3 y (fun y v w'=>v=.int .i64 y.1∧SH r (obj157 Z wz g0 y.2::L) w') (fun y w'=>SH r (obj157 Z wz g0 y::L) w'):=by
 refine xB Tryz.func121 rfl Tryz.ntmps121 [(0,_)] rfl (by simp) ?_
 intro U J Qf hQ hQn hQp
 unfold fV at G
 refine nz 1 J rfl fun U J=>ws fun I z=>xk 1 J rfl fun U J=>pO G aQo J rfl (fun _ h=>jF h X (qz+0) hZ) (fun C w X G=>?_) fun C v U w hR J G=>?_
 ·cases G
  exact hQp _ rfl _ _ J.defers X
 obtain⟨rfl,X⟩:=hR
 refine x_m J rfl fun U J=>wn (z _ _ ?_)
 refine ws fun S H=>xk 1 J rfl fun U J=>gE G J (rE rfl (J.ev rfl) (J.ev rfl) (by decide)) rfl fun Y _ U J G=>gE G J (aY lT uu2 rfl (J.ev rfl)) rfl fun a1 _ U J G=>x_m J rfl fun U J=>x_l G J rfl fun a2 _ U J G=>gE G J (aY lT uu2 rfl (J.ev rfl)) rfl fun a3 _ U J G=>x_v J (aVs rfl (J.ev rfl)) rfl fun U J=>x_l G J rfl fun a4 _ U J G=>x_m J rfl fun U J=>wn (H _ _ ?_)
 cases G
 refine wp_ret (hQ _ rfl _ _ ?_)
 exact lv Tryz.results121 J rfl ⟨rfl,X⟩
theorem uN {a0 a1 g0 y} (G:iU a0 a1=some y) (X:SH r (obj157 Z wz g0 a0::L) w) (qz:Nat) (hZ:L[qz]?=some (zone Z wz)) :
  RetS Tryz.prog 77 #[.pointer (some ⟨g0,0,none⟩),.int .i64 a1] w aC3 y (fun y v w'=>v=str y.1∧SH r (obj157 Z wz g0 y.2::L) w') (fun y w'=>SH r (obj157 Z wz g0 y::L) w'):=by
 refine xB Tryz.func77 rfl Tryz.ntmps77 [(0,_),(1,_)] rfl (by simp) ?_
 intro U J Qf hQ hQn hQp
 unfold iU at G
 refine nz 1 J rfl fun U J=>ws fun c0 Y=>xk 2 J rfl fun U J=>gE G J (aY uu3 lT rfl (J.ev rfl)) rfl fun c3 _ U J G=>pO G aQo J rfl (fun _ h=>jF h X (qz+0) hZ) (fun I w X G=>?_) fun I v U w hR J G=>?_
 ·cases G
  exact hQp _ rfl _ _ J.defers X
 obtain⟨rfl,X⟩:=hR
 obtain⟨c4,c5,c6,X⟩:=aM X
 obtain⟨S,X⟩:=(X.pk 1).unpure
 refine x_m J rfl fun U J=>wn (Y _ _ ?_)
 refine ws fun c7 a2=>xk 4 J rfl fun U J=>aK qE J (fun U J=>?_) rfl
 refine aG eZ (X.cell 0 rfl 0 _ rfl) J (fun U J=>?_) rfl
 refine aU eZ (X.rdl 1 (S.rdl qz hZ) rfl).2.1 J (fun U J=>?_) rfl
 refine gE G J (aY uu3 lT rfl (J.ev rfl)) rfl fun c8 _ U J G=>xk 1 J rfl fun U J=>?_
 replace X:=bH (x:=I.2) ((SH.pure_ S X).pk 1)
 refine pO G aAk J rfl (fun _ h=>aQ h X (qz+0) hZ) (fun a3 w X G=>?_) fun a3 v U w hR J G=>?_
 ·cases G
  exact hQp _ rfl _ _ J.defers X
 obtain⟨rfl,X⟩:=hR
 obtain⟨c9,d0,d1,X⟩:=aM X
 obtain⟨z,X⟩:=(X.pk 1).unpure
 refine wn (a2 _ _ ?_)
 refine ws fun d2 a4=>xk 2 J rfl fun U J=>aK qE J (fun U J=>?_) rfl
 refine aG eZ (X.cell 0 rfl 0 _ rfl) J (fun U J=>?_) rfl
 refine x_m J rfl fun U J=>?_
 obtain⟨d3,C,G⟩:=bnd G
 obtain⟨a5,a6,a7,a8,a9⟩:=aSp z C
 refine x_v (v:=.slice a5 a6 a7) J (aFm a8 (wJ eZ sz5 rfl (J.ev rfl) (J.ev rfl) (tE (X.rdl 1 (z.rdl qz hZ) rfl) C).2.2.2.2.1 (tE (X.rdl 1 (z.rdl qz hZ) rfl) C).2.2.1)) rfl fun U J=>aQ3 eZ uu5 uu9 (X.rdl 1 (a9.rdl qz hZ) rfl) J (fun U J=>?_) rfl
 refine x_m J rfl fun U J=>wn (a4 _ _ ?_)
 refine ws fun d4 b3=>xk 3 J rfl fun U J=>aK qE J (fun U J=>?_) rfl
 refine aG eZ (X.cell 0 rfl 0 _ rfl) J (fun U J=>?_) rfl
 refine x_m J rfl fun U J=>?_
 obtain⟨b4,H,G⟩:=bnd G
 obtain⟨b5,b6,b7,b8,b9⟩:=aGe z H
 refine x_v (v:=.slice b5 b6 b7) J (aFm b8 (kQ eZ sz5 rfl (J.ev rfl) (J.ev rfl) (tE (X.rdl 1 (z.rdl qz hZ) rfl) H).1 (tE (X.rdl 1 (z.rdl qz hZ) rfl) H).2.2.2.2.2)) rfl fun U J=>xk 1 J rfl fun U J=>aK qE J (fun U J=>?_) rfl
 refine dE 0 aDd J X rfl (fun  U w X J=>?_) rfl
 refine wn (b3 _ _ ?_)
 refine nz 2 J rfl fun U J=>?_
 replace X:=(SH.pure_ b9 X).pk 1
 replace X:=bH (x:=(⟨b4⟩:S157)) X
 cases G
 refine wp_ret (hQ _ rfl _ _ ?_)
 exact lv Tryz.results77 J rfl ⟨rfl,X⟩
theorem aBc {a0 c5 z y} (G:lP a0 c5=some y) (X:SH r (obj157 Z wz z c5::L) w) (qz:Nat) (hZ:L[qz]?=some (zone Z wz)) :
  RetS Tryz.prog 120 #[.int .i64 a0,.func (.func 121) #[.pointer (some ⟨z,0,none⟩)] #[]] w aC3 y (fun y v w'=>∃ (B0:Option Addr) (m0:Nat) (d0:Nat),v=.slice B0 m0 d0∧SH r (own (kI .i64) 2 B0 m0 d0 y.1::obj157 Z wz z y.2::L) w') (fun y w'=>SH r (obj157 Z wz z y::L) w'):=by
 refine xB Tryz.func120 rfl Tryz.ntmps120 [(0,_),(1,_)] rfl (by simp) ?_
 intro U J Qf hQ hQn hQp
 unfold lP at G
 obtain⟨d3,d4,d5,X⟩:=aM X
 obtain⟨d6,X⟩:=(X.pk 1).unpure
 refine nz 1 J rfl fun U J=>nz 1 J rfl fun U J=>wp_seq_k fun g1 d7=>nz 2 J rfl fun U J=>aA fun c6 d8=>?_
 have hb1:∀S b8,pG S b8=some y→∀b9 c0 c3 Y a1 a2 (c7:Imm Z wz (kI .u8) b9 c0 c3 S) U w,FR 16 [] U [(1,.func (.func 121) #[.pointer (some ⟨z,0,none⟩)] #[]),(5,.slice Y a1 a2)]→SH r (blk z 157 [.slice b9 c0 c3]::own (kI .i64) 2 Y a1 a2 b8::L) w→c6 U w:=by
  intro S b8 G b9 c0 c3 Y a1 a2 c7 U w J X
  unfold pG at G
  refine d8 _ _ (d7 _ _ ?_)
  refine nz 2 J rfl fun U J=>?_
  replace X:=(SH.pure_ c7 X).pk 1
  replace X:=(bH (x:=(⟨S⟩:S157)) X).pk 1
  cases G
  refine wp_ret (hQ _ rfl _ _ ?_)
  exact lv Tryz.results120 J rfl ⟨Y,a1,a2,rfl,X⟩
 obtain⟨d9,e0,G⟩:=bnd G
 have e1:=G
 have e2:∀H I,(.inl (H,I))=d9→∀a3 a4 a5 a6 a7 a8 (c8:Imm Z wz (kI .u8) a3 a4 a5 H) U w,FR 16 [] U [(1,.func (.func 121) #[.pointer (some ⟨z,0,none⟩)] #[]),(5,.slice a6 a7 a8)]→SH r (blk z 157 [.slice a3 a4 a5]::own (kI .i64) 2 a6 a7 a8 I::L) w→c6 U w:=by
  intro H I ht a3 a4 a5 a6 a7 a8 c8 U w J X
  subst ht
  replace G:nV H I=some y:=G
  unfold nV at G
  exact hb1 H I G a3 a4 a5 a6 a7 a8 c8 U w (J.sub _ rfl) X
 replace X:=(SH.nil_own (d:=(kI .i64)) (e:=2) X).pk 1
 refine aD e0 (fun s U w=>∃a9 b3 b4 b5 b6 b7,Imm Z wz (kI .u8) a9 b3 b4 s.1∧FR 16 [] U [(1,.func (.func 121) #[.pointer (some ⟨z,0,none⟩)] #[]),(5,.slice b5 b6 b7),(6,.int .i64 a0),(7,.int .i64 s.2.2)]∧SH r (blk z 157 [.slice a9 b3 b4]::own (kI .i64) 2 b5 b6 b7 s.2.1::L) w) ⟨d3,d4,d5,none,0,0,d6,J.sub _ rfl,X⟩ ?_
 intro g2 e3 e4 G e5 c9 U w hLab
 obtain⟨c4,d1,e6⟩:=e3
 replace G:dB a0 c4 d1 e6=some e4:=G
 unfold dB at G
 try dsimp only at hLab
 obtain⟨a9,b3,b4,b5,b6,b7,d2,J,X⟩:=hLab
 refine nz 1 J rfl fun U J=>wp_seq_k fun g3 e7=>bA J G rfl (fun e8 G=>?_) fun e8 G=>?_
 ·refine wp_skip (e7 _ _ ?_)
  refine wp_seq_k fun g4 e9=>aA fun g5 f2=>aC (xk 2 J rfl fun U J=>?_)
  replace X:=(SH.pure_ d2 X).pk 1
  replace X:=bH (x:=(⟨c4⟩:S157)) X
  refine pO G aM4 J rfl (fun _ h=>mQ h X (qz+1) hZ) (fun C w X G=>?_) fun C v U w hR J G=>?_
  ·replace X:=X.drop 1
   cases G
   have ht:=c9 _ rfl
   subst ht
   replace G:=e1
   replace G:some (.inr C)=some y:=G
   cases G
   exact hQp _ rfl _ _ J.defers X
  obtain⟨rfl,X⟩:=hR
  obtain⟨f3,f4,f5,X⟩:=aM X
  obtain⟨f6,X⟩:=(X.pk 1).unpure
  refine gW (d:=(kI .i64)) (e:=2) (ps:=#[(0,.int .i64 C.1)]) (cells:=[.int .i64 C.1]) (xs:=[C.1]) (fun w=>by kernel_rfl) rfl ⟨[.int .i64 C.1],_,rfl,rfl,rfl⟩ J X (fun g6 U w X J=>?_) rfl
  obtain⟨f7,G⟩:=aB G
  have hr:=X.rd 0 rfl
  refine gK 2 kT bN J X hr.1 hr.2.1 f7 rfl (fun f8 f9 g0 U w X J=>?_) rfl
  refine x_m J rfl fun U J=>wpList_nil (f2 _ _ ?_)
  refine e9 _ _ (aC ?_)
  refine x_l G J rfl fun g7 _ U J G=>x_m J rfl fun U J=>wpList_nil ?_
  replace X:=X.drop 1 |>.pk 1
  cases G
  exact⟨_,e5 _ rfl,f3,f4,f5,f8,f9,g0,f6,J.sub _ rfl,X⟩
 cases G
 exact wp_exit (e2 c4 d1 (c9 _ rfl) a9 b3 b4 b5 b6 b7 d2 U w (J.sub _ rfl) X)
theorem aEk {a0 a1 g0 y} (G:rA a0 a1=some y) (X:SH r (obj157 Z wz g0 a0::L) w) (qz:Nat) (hZ:L[qz]?=some (zone Z wz)) :
  RetS Tryz.prog 122 #[.pointer (some ⟨g0,0,none⟩),.int .i64 a1] w aC3 y (fun y v w'=>∃ (B0:Option Addr) (m0:Nat) (d0:Nat),v=.slice B0 m0 d0∧SH r (own (kI .i64) 2 B0 m0 d0 y.1::obj157 Z wz g0 y.2::L) w') (fun y w'=>SH r (obj157 Z wz g0 y::L) w'):=by
 refine xB Tryz.func122 rfl Tryz.ntmps122 [(0,_),(1,_)] rfl (by simp) ?_
 intro U J Qf hQ hQn hQp
 unfold rA at G
 refine nz 1 J rfl fun U J=>ws fun m8 f6=>xk 1 J rfl fun U J=>pO G aM4 J rfl (fun _ h=>mQ h X (qz+0) hZ) (fun C w X G=>?_) fun C v U w hR J G=>?_
 ·cases G
  exact hQp _ rfl _ _ J.defers X
 obtain⟨rfl,X⟩:=hR
 refine x_m J rfl fun U J=>pO G aSl J rfl (fun _ h=>pM h X (qz+0) hZ) (fun d3 w X G=>?_) fun d3 v U w hR J G=>?_
 ·cases G
  exact hQp _ rfl _ _ J.defers X
 obtain⟨rfl,X⟩:=hR
 obtain⟨m9,n0,n3,X⟩:=aM X
 obtain⟨d4,X⟩:=(X.pk 1).unpure
 refine gE G J (aY uu5 uu3 rfl (J.ev rfl)) rfl fun I _ U J G=>nk 2 J rfl fun U J=>f6 _ _ (wp_seq_k fun f7 f8=>?_)
 have hj1:∀d5,nF a1 C I d5=some y→∀b5 b6 b7 (d6:Imm Z wz (kI .u8) b5 b6 b7 d5) U w,FR 98 [] U [(0,(pP g0)),(1,.int .i64 a1),(5,.int .i64 C.1),(6,.int .i64 I)]→SH r (blk g0 157 [.slice b5 b6 b7]::L) w→f7 U w:=by
  intro d5 G b5 b6 b7 d6 U w J X
  unfold nF at G
  refine f8 _ _ (ws fun n4 f9=>?_)
  refine xk 1 J rfl fun U J=>?_
  obtain⟨g1,G⟩:=aB G
  refine aE4 (d:=(kI .i64)) (bytes:=8) 0 kT rfl bN g1 J X (fun z U w X J=>?_) rfl
  refine x_m J rfl fun U J=>wn (f9 _ _ ?_)
  refine wp_seq_k fun n5 g2=>ws fun n6 g3=>xk 2 J rfl fun U J=>aK qE J (fun U J=>?_) rfl
  refine aG eZ (X.cell 1 rfl 0 _ rfl) J (fun U J=>?_) rfl
  refine aU eZ (X.rdl 2 (d6.rdl qz hZ) rfl).2.1 J (fun U J=>?_) rfl
  refine x_l G J rfl fun d7 _ U J G=>x_m J rfl fun U J=>wn (g3 _ _ ?_)
  refine aA fun e3 g4=>?_
  have hb1:∀d8 a3,qI C d8 a3=some y→∀S Y a2 (g5:Imm Z wz (kI .u8) S Y a2 d8) U w,FR 98 [] U [(0,(pP g0)),(5,.int .i64 C.1),(7,.slice (some ⟨z,0,none⟩) a1.toNat a1.toNat)]→SH r (blk g0 157 [.slice S Y a2]::own (kI .i64) 2 (some ⟨z,0,none⟩) a1.toNat a1.toNat a3::L) w→e3 U w:=by
   intro d8 a3 G S Y a2 g5 U w J X
   unfold qI at G
   refine g4 _ _ (g2 _ _ ?_)
   refine wp_seq_k fun n7 g6=>ws fun n8 g7=>xk 1 J rfl fun U J=>aU bN (X.rd 1 rfl).2.1 J (fun U J=>?_) rfl
   refine x_m J rfl fun U J=>wn (g7 _ _ ?_)
   refine aA fun e4 g8=>?_
   have hb2:∀d9,uC d9=some y→∀U w,FR 98 [] U [(0,(pP g0)),(7,.slice (some ⟨z,0,none⟩) a1.toNat a1.toNat)]→SH r (blk g0 157 [.slice S Y a2]::own (kI .i64) 2 (some ⟨z,0,none⟩) a1.toNat a1.toNat d9::L) w→e4 U w:=by
    intro d9 G U w J X
    unfold uC at G
    refine g8 _ _ (g6 _ _ ?_)
    refine ws fun n9 g9=>xk 2 J rfl fun U J=>aK qE J (fun U J=>?_) rfl
    refine dE 0 aDd J X rfl (fun  U w X J=>?_) rfl
    refine wn (g9 _ _ ?_)
    refine nz 2 J rfl fun U J=>?_
    replace X:=(SH.pure_ (Imm.nil:Imm Z wz (kI .u8) none 0 0 []) X).pk 1
    replace X:=(bH (x:=(⟨[]⟩:S157)) X).pk 1
    cases G
    refine wp_ret (hQ _ rfl _ _ ?_)
    exact lv Tryz.results122 J rfl ⟨some ⟨z,0,none⟩,a1.toNat,a1.toNat,rfl,X⟩
   obtain⟨h0,h1,G⟩:=bnd G
   have h2:∀a4,(a4)=h0→∀U w,FR 98 [] U [(0,(pP g0)),(7,.slice (some ⟨z,0,none⟩) a1.toNat a1.toNat)]→SH r (blk g0 157 [.slice S Y a2]::own (kI .i64) 2 (some ⟨z,0,none⟩) a1.toNat a1.toNat a4::L) w→e4 U w:=by
    intro a4 ht U w J X
    subst ht
    replace G:rM a4=some y:=G
    unfold rM at G
    exact hb2 a4 G U w (J.sub _ rfl) X
   refine aD h1 (fun s U w=>FR 98 [] U [(0,(pP g0)),(5,.int .i64 C.1),(7,.slice (some ⟨z,0,none⟩) a1.toNat a1.toNat),(82,.int .i64 (a3.length:Int)),(83,.int .i64 s.2)]∧SH r (blk g0 157 [.slice S Y a2]::own (kI .i64) 2 (some ⟨z,0,none⟩) a1.toNat a1.toNat s.1::L) w) ⟨J.sub _ rfl,X⟩ ?_
   intro o0 h3 h4 G h5 h6 U w hLab
   obtain⟨e5,h7⟩:=h3
   replace G:fO C a3 e5 h7=some h4:=G
   unfold fO at G
   try dsimp only at hLab
   obtain⟨J,X⟩:=hLab
   refine nz 1 J rfl fun U J=>wp_seq_k fun o1 h8=>bA J G rfl (fun h9 G=>?_) fun h9 G=>?_
   ·refine wp_skip (h8 _ _ ?_)
    refine wp_seq_k fun o2 i0=>aA fun o3 i1=>nz 2 J rfl fun U J=>aC (xk 2 J rfl fun U J=>?_)
    obtain⟨o4,b8,G⟩:=bnd G
    refine fG bN sz2 (X.rd 1 rfl) b8 J (fun U J=>?_) rfl
    obtain⟨cs,hV,i2⟩:=el (X.rd 1 rfl) b8
    obtain rfl:=hV
    refine aG uu2 (i2 0 _ rfl) J (fun U J=>?_) rfl
    refine x_m J rfl fun U J=>x_l G J rfl fun e6 _ U J G=>fG bN sz2 (X.rd 1 rfl) b8 J (fun U J=>?_) rfl
    refine aGj (z':=e6) (off:=0) (vs:=[.int .i64 e6]) 1 sz2 J X rfl (dR b8).2.2 (fun c h=>by cases h; rfl) (fun  U w X J=>?_) rfl rfl rfl rfl rfl rfl rfl rfl
    refine wpList_nil (i1 _ _ ?_)
    refine i0 _ _ (aC ?_)
    refine x_l G J rfl fun o5 _ U J G=>x_m J rfl fun U J=>wpList_nil ?_
    replace X:=X.pk 1
    cases G
    exact⟨_,h5 _ rfl,J.sub _ rfl,X⟩
   cases G
   exact wp_exit (h2 e5 (h6 _ rfl) U w (J.sub _ rfl) X)
  obtain⟨i3,i4,G⟩:=bnd G
  have i5:=G
  have i6:∀a5 a6,(.inl (a5,a6))=i3→∀b9 c0 c3 (e7:Imm Z wz (kI .u8) b9 c0 c3 a5) U w,FR 98 [] U [(0,(pP g0)),(5,.int .i64 C.1),(7,.slice (some ⟨z,0,none⟩) a1.toNat a1.toNat)]→SH r (blk g0 157 [.slice b9 c0 c3]::own (kI .i64) 2 (some ⟨z,0,none⟩) a1.toNat a1.toNat a6::L) w→e3 U w:=by
   intro a5 a6 ht b9 c0 c3 e7 U w J X
   subst ht
   replace G:nU C a5 a6=some y:=G
   unfold nU at G
   exact hb1 a5 a6 G b9 c0 c3 e7 U w (J.sub _ rfl) X
  replace X:=X.pk 1
  refine aD i4 (fun s U w=>∃a7 a8 a9,Imm Z wz (kI .u8) a7 a8 a9 s.1∧FR 98 [] U [(0,(pP g0)),(1,.int .i64 a1),(5,.int .i64 C.1),(6,.int .i64 I),(7,.slice (some ⟨z,0,none⟩) a1.toNat a1.toNat),(40,.int .i64 d7),(41,.int .i64 s.2.2)]∧SH r (blk g0 157 [.slice a7 a8 a9]::own (kI .i64) 2 (some ⟨z,0,none⟩) a1.toNat a1.toNat s.2.1::L) w) ⟨b5,b6,b7,d6,J.sub _ rfl,X⟩ ?_
  intro o6 i7 e8 G i8 e9 U w hLab
  obtain⟨c4,c5,b3⟩:=i7
  replace G:gO a1 I d7 c4 c5 b3=some e8:=G
  unfold gO at G
  try dsimp only at hLab
  obtain⟨a7,a8,a9,b4,J,X⟩:=hLab
  refine nz 1 J rfl fun U J=>wp_seq_k fun o7 i9=>bA J G rfl (fun j0 G=>?_) fun j0 G=>?_
  ·refine wp_skip (i9 _ _ ?_)
   refine wp_seq_k fun o8 j1=>aA fun j2 j3=>?_
   have hb3:∀e0 e1,kP b3 e0 e1=some e8→∀c6 c7 c8 (f2:Imm Z wz (kI .u8) c6 c7 c8 e0) U w,FR 98 [] U [(0,(pP g0)),(1,.int .i64 a1),(5,.int .i64 C.1),(6,.int .i64 I),(7,.slice (some ⟨z,0,none⟩) a1.toNat a1.toNat),(40,.int .i64 d7),(41,.int .i64 b3)]→SH r (blk g0 157 [.slice c6 c7 c8]::own (kI .i64) 2 (some ⟨z,0,none⟩) a1.toNat a1.toNat e1::L) w→j2 U w:=by
    intro e0 e1 G c6 c7 c8 f2 U w J X
    unfold kP at G
    refine j3 _ _ (j1 _ _ ?_)
    refine aC (x_l G J rfl fun o9 _ U J G=>?_)
    refine x_m J rfl fun U J=>wpList_nil ?_
    cases G
    exact⟨_,i8 _ rfl,c6,c7,c8,f2,J.sub _ rfl,X⟩
   refine nz 2 J rfl fun U J=>ws fun p0 j4=>xk 2 J rfl fun U J=>aK qE J (fun U J=>?_) rfl
   refine aG eZ (X.cell 0 rfl 0 _ rfl) J (fun U J=>?_) rfl
   refine x_m J rfl fun U J=>gE G J (aCs rfl (J.ev rfl) (J.ev rfl) (by decide)) rfl fun p1 _ U J G=>?_
   obtain⟨p2,f3,G⟩:=bnd G
   refine fG eZ sz5 (X.rdl 2 (b4.rdl qz hZ) rfl) f3 J (fun U J=>?_) rfl
   obtain⟨cs,hV,j5⟩:=el (X.rdl 2 (b4.rdl qz hZ) rfl) f3
   obtain rfl:=hV
   refine aG uu5 (j5 0 _ rfl) J (fun U J=>?_) rfl
   refine x_m J rfl fun U J=>gE G J (aE6 rfl (J.ev rfl) (J.ev rfl) (by decide)) rfl fun p3 _ U J G=>?_
   obtain⟨j6,G⟩:=aB G
   refine gE G J (rE rfl (J.ev rfl) (J.ev rfl) j6) rfl fun p4 _ U J G=>gE G J (aY uu5 lT rfl (J.ev rfl)) rfl fun p5 _ U J G=>x_l G J rfl fun j7 _ U J G=>x_m J rfl fun U J=>wn (j4 _ _ ?_)
   refine wp_seq_k fun p6 j8=>ws fun p7 j9=>xk 3 J rfl fun U J=>x_l G J rfl fun p8 _ U J G=>nk 1 J rfl fun U J=>j9 _ _ (bA J G rfl (fun k0 G=>?_) fun k0 G=>?_)
   ·refine ws fun p9 k1=>xk 3 J rfl fun U J=>?_
    replace X:=(SH.pure_ b4 X).pk 1
    replace X:=bH (x:=(⟨c4⟩:S157)) X
    refine pO G aAk J rfl (fun _ h=>aQ h X (qz+1) hZ) (fun e2 w X G=>?_) fun e2 v U w hR J G=>?_
    ·replace X:=X.drop 1
     cases G
     have ht:=e9 _ rfl
     subst ht
     replace G:=i5
     replace G:some (.inr e2)=some y:=G
     cases G
     exact hQp _ rfl _ _ J.defers X
    obtain⟨rfl,X⟩:=hR
    obtain⟨k2,k3,k4,X⟩:=aM X
    obtain⟨k5,X⟩:=(X.pk 1).unpure
    refine wn (k1 _ _ ?_)
    exact wp_exit (hb3 e2.f0 c5 G k2 k3 k4 k5 U w (J.sub _ rfl) X)
   refine wp_skip (j8 _ _ ?_)
   refine cO [0,0,0,6,15,31,0,0,0,384,960,1984,4095,8191,16383] [14] rfl J X (by kernel_rfl) (by kernel_rfl) (by kernel_rfl) (by kernel_rfl) fun w X=>?_
   obtain⟨k6,G⟩:=aB G
   obtain⟨c9,k7,G⟩:=nX G
   obtain⟨k8,d1,G⟩:=bnd G
   obtain⟨cs,hV,k9⟩:=el (X.rd 1 rfl) d1
   obtain rfl:=hV
   obtain⟨l0,G⟩:=aB G
   obtain⟨l1,l2,G⟩:=nX G
   obtain⟨l3,G⟩:=aB G
   obtain⟨l4,l5,G⟩:=nX G
   obtain⟨l6,l7,G⟩:=nX G
   obtain⟨d2,l8,G⟩:=nX G
   refine⟨[(0,.slice (some ⟨z,0,none⟩) a1.toNat a1.toNat),(1,.int .i64 b3),(2,.int .i64 I),(3,.int .i64 c9),(4,.pointer (some (ea (some ⟨z,0,none⟩) (c9.toNat * 1)))),(5,.int .i64 k8),(6,.int .u64 j7),(7,.int .i64 b3),(8,.int .i64 I),(9,.int .i64 l1),(10,.int .u64 l4),(11,.int .i64 l6),(12,.int .i64 d2),(13,.pointer (some (ea (some ⟨z,0,none⟩) (c9.toNat * 1))))],?_⟩
   refine dF [0,1,2,3,4,5,6,7,8,9,10,11,12,13] [14] (by kernel_rfl) ⟨pm rfl,pm rfl,pm rfl,pt [(67,_),(68,_)] rfl fun U J=>kR k7 (aCs rfl (J.ev rfl) (J.ev rfl) k6),pt [(66,_),(69,_)] rfl (fun U J=>fH bN sz2 (X.rd 1 rfl) d1 J rfl rfl rfl),pt [(70,_)] rfl (fun U J=>cL uu2 (k9 0 _ rfl) J rfl rfl rfl),pm rfl,pm rfl,pm rfl,pt [(73,_),(74,_)] rfl fun U J=>kR l2 (aE6 rfl (J.ev rfl) (J.ev rfl) l0),pt [(72,_),(75,_)] rfl fun U J=>kR l5 (aGr rfl (J.ev rfl) (J.ev rfl) l3),pt [(76,_)] rfl fun U J=>kR l7 (aY lT uu2 rfl (J.ev rfl)),pt [(71,_),(77,_)] rfl fun U J=>kR l8 (aPa rfl (J.ev rfl) (J.ev rfl)),pt [(66,_),(69,_)] rfl (fun U J=>fH bN sz2 (X.rd 1 rfl) d1 J rfl rfl rfl),trivial⟩ ⟨et [(78,_),(79,_)] rfl (fun U J K hK=>?_),trivial⟩
   refine xI (z':=d2) (off:=0) (vs:=[.int .i64 d2]) 1 sz2 J X rfl (dR d1).2.2 (fun c h=>by cases h; rfl) (fun  w X=>?_) rfl rfl rfl rfl rfl rfl
   refine hK _ [] _ rfl (gN [] (by kernel_rfl) trivial ⟨by kernel_rfl,by kernel_rfl⟩ [(0,_),(1,_),(5,_),(6,_),(7,_),(40,_),(41,_)] rfl (fun U J=>?_))
   replace X:=X.pk 1
   exact hb3 c4 (c5.set c9.toNat d2) G a7 a8 a9 b4 U w (J.sub _ rfl) X
  cases G
  exact wp_exit (i6 c4 c5 (e9 _ rfl) a7 a8 a9 b4 U w (J.sub _ rfl) X)
 refine aC (xk 4 J rfl fun U J=>?_)
 refine bcG G (fun H G=>?_) fun H G=>?_
 ·refine xg 2 H J rfl rfl fun U J=>aJ H J ?_ rfl
  refine aK qE J (fun U J=>?_) rfl
  refine aJ H J ?_ rfl
  refine aG eZ (X.cell 0 rfl 0 _ rfl) J (fun U J=>?_) rfl
  refine aJ H J ?_ rfl
  refine aU eZ (X.rdl 1 (d4.rdl qz hZ) rfl).2.1 J (fun U J=>?_) rfl
  refine xg 2 H J rfl rfl fun U J=>aJ H J ?_ rfl
  refine x_l G J rfl fun q0 _ U J G=>aJ H J ?_ rfl
  refine x_l G J rfl fun q1 _ U J G=>aJ H J ?_ rfl
  refine gE G J (aCs rfl (J.ev rfl) (J.ev rfl) (by decide)) rfl fun q2 _ U J G=>xg 2 H J rfl rfl fun U J=>?_
  replace X:=bH (x:=d3.2) ((SH.pure_ d4 X).pk 1)
  refine pO G aAk J rfl (fun _ h=>aQ h X (qz+0) hZ) (fun f4 w X G=>?_) fun f4 v U w hR J G=>?_
  ·cases G
   exact hQp _ rfl _ _ J.defers X
  obtain⟨rfl,X⟩:=hR
  obtain⟨l9,m1,m2,X⟩:=aM X
  obtain⟨m3,X⟩:=(X.pk 1).unpure
  exact wpList_nil (hj1 f4.f0 G l9 m1 m2 m3 U w (J.sub _ rfl) X)
 refine xg 12 H J rfl rfl fun U J=>?_
 replace X:=bH (x:=d3.2) ((SH.pure_ d4 X).pk 1)
 refine pO G aAk J rfl (fun _ h=>aQ h X (qz+0) hZ) (fun f5 w X G=>?_) fun f5 v U w hR J G=>?_
 ·cases G
  exact hQp _ rfl _ _ J.defers X
 obtain⟨rfl,X⟩:=hR
 obtain⟨m4,m5,m6,X⟩:=aM X
 obtain⟨m7,X⟩:=(X.pk 1).unpure
 exact wpList_nil (hj1 f5.f0 G m4 m5 m6 m7 U w (J.sub _ rfl) X)
theorem aBj {a0 g0 y} (G:rT a0=some y) (X:SH r (obj157 Z wz g0 a0::L) w) (qz:Nat) (hZ:L[qz]?=some (zone Z wz)) :
  RetS Tryz.prog 101 #[.pointer (some ⟨g0,0,none⟩)] w aC3 y (fun y v w'=>∃ (B0:Option Addr) (m0:Nat) (d0:Nat),v=.slice B0 m0 d0∧SH r (own (kI .i64) 2 B0 m0 d0 y.1::obj157 Z wz g0 y.2::L) w') (fun y w'=>SH r (obj157 Z wz g0 y::L) w'):=by
 refine xB Tryz.func101 rfl Tryz.ntmps101 [(0,_)] rfl (by simp) ?_
 intro U J Qf hQ hQn hQp
 unfold rT at G
 refine nz 1 J rfl fun U J=>ws fun s7 k2=>xk 1 J rfl fun U J=>pO G aSl J rfl (fun _ h=>pM h X (qz+0) hZ) (fun k3 w X G=>?_) fun k3 v U w hR J G=>?_
 ·cases G
  exact hQp _ rfl _ _ J.defers X
 obtain⟨rfl,X⟩:=hR
 refine x_m J rfl fun U J=>wn (k2 _ _ ?_)
 refine ws fun s8 k4=>xk 3 J rfl fun U J=>pO G aAk J rfl (fun _ h=>aQ h X (qz+0) hZ) (fun k5 w X G=>?_) fun k5 v U w hR J G=>?_
 ·cases G
  exact hQp _ rfl _ _ J.defers X
 obtain⟨rfl,X⟩:=hR
 refine wn (k4 _ _ ?_)
 refine ws fun s9 k6=>xk 1 J rfl fun U J=>pO G aQo J rfl (fun _ h=>jF h X (qz+0) hZ) (fun I w X G=>?_) fun I v U w hR J G=>?_
 ·cases G
  exact hQp _ rfl _ _ J.defers X
 obtain⟨rfl,X⟩:=hR
 obtain⟨a7,a8,a9,X⟩:=aM X
 obtain⟨H,X⟩:=(X.pk 1).unpure
 refine gE G J (aY lT uu3 rfl (J.ev rfl)) rfl fun C _ U J G=>x_m J rfl fun U J=>wn (k6 _ _ ?_)
 refine nz 1 J rfl fun U J=>wp_seq_k fun t0 k7=>nz 1 J rfl fun U J=>aA fun k8 k9=>?_
 have hb1:∀b3 h4,jE b3 h4=some y→∀h5 h6 h7 b4 b5 b6 (i5:Imm Z wz (kI .u8) h5 h6 h7 b3) U w,FR 70 [] U [(0,(pP g0)),(5,.slice b4 b5 b6)]→SH r (blk g0 157 [.slice h5 h6 h7]::own (kI .i64) 2 b4 b5 b6 h4::L) w→k8 U w:=by
  intro b3 h4 G h5 h6 h7 b4 b5 b6 i5 U w J X
  unfold jE at G
  refine k9 _ _ (k7 _ _ ?_)
  refine nz 2 J rfl fun U J=>?_
  replace X:=(SH.pure_ i5 X).pk 1
  replace X:=(bH (x:=(⟨b3⟩:S157)) X).pk 1
  cases G
  refine wp_ret (hQ _ rfl _ _ ?_)
  exact lv Tryz.results101 J rfl ⟨b4,b5,b6,rfl,X⟩
 refine nz 2 J rfl fun U J=>bA J G rfl (fun l0 G=>?_) fun l0 G=>?_
 ·refine aC (xk 2 J rfl fun U J=>?_)
  refine x_v J (mN rfl (rX (vals:=#[.pointer (some ⟨g0,0,none⟩)]) J rfl) (rX (vals:=#[]) J rfl)) rfl fun U J=>?_
  replace X:=bH (x:=I.2) ((SH.pure_ H X).pk 1)
  refine pO G bBe J rfl (fun _ h=>aBc h X (qz+0) hZ) (fun h8 w X G=>?_) fun h8 v U w hR J G=>?_
  ·cases G
   exact hQp _ rfl _ _ J.defers X
  obtain⟨l1,l2,l3,rfl,X⟩:=hR
  obtain⟨l4,l5,l6,X⟩:=aM (X.pk 1)
  obtain⟨l7,X⟩:=(X.pk 1).unpure
  exact x_m J rfl fun U J=>wpList_nil (hb1 h8.2.f0 h8.1 G l4 l5 l6 l1 l2 l3 l7 U w (J.sub _ rfl) X)
 refine nz 2 J rfl fun U J=>bA J G rfl (fun l8 G=>?_) fun l8 G=>?_
 ·refine nz 1 J rfl fun U J=>nz 2 J rfl fun U J=>aA fun i6 l9=>?_
  have hb2:∀b7 b8,xC b7 b8=some y→∀b9 c0 c3 c4 c5 c6 (i7:Imm Z wz (kI .u8) b9 c0 c3 b7) U w,FR 70 [] U [(0,(pP g0)),(5,.slice c4 c5 c6)]→SH r (blk g0 157 [.slice b9 c0 c3]::own (kI .i64) 2 c4 c5 c6 b8::L) w→i6 U w:=by
   intro b7 b8 G b9 c0 c3 c4 c5 c6 i7 U w J X
   unfold xC at G
   exact l9 _ _ (hb1 b7 b8 G b9 c0 c3 c4 c5 c6 i7 U w (J.sub _ rfl) X)
  obtain⟨t183,m1,G⟩:=bnd G
  have m2:=G
  have m3:∀S Y,(.inl (S,Y))=t183→∀c7 c8 c9 d1 d2 d3 (i8:Imm Z wz (kI .u8) c7 c8 c9 S) U w,FR 70 [] U [(0,(pP g0)),(5,.slice d1 d2 d3)]→SH r (blk g0 157 [.slice c7 c8 c9]::own (kI .i64) 2 d1 d2 d3 Y::L) w→i6 U w:=by
   intro S Y ht c7 c8 c9 d1 d2 d3 i8 U w J X
   subst ht
   replace G:uI S Y=some y:=G
   unfold uI at G
   exact hb2 S Y G c7 c8 c9 d1 d2 d3 i8 U w (J.sub _ rfl) X
  replace X:=(SH.nil_own (d:=(kI .i64)) (e:=2) X).pk 1
  refine aD m1 (fun s U w=>∃d4 d5 d6 d7 d8 d9,Imm Z wz (kI .u8) d4 d5 d6 s.1∧FR 70 [] U [(0,(pP g0)),(5,.slice d7 d8 d9),(6,.int .i64 s.2.2.1),(26,.int .i64 C),(27,.int .i64 s.2.2.2)]∧SH r (blk g0 157 [.slice d4 d5 d6]::own (kI .i64) 2 d7 d8 d9 s.2.1::L) w) ⟨a7,a8,a9,none,0,0,H,J.sub _ rfl,X⟩ ?_
  intro t1 m4 m5 G m6 i9 U w hLab
  obtain⟨h9,j0,m7,m8⟩:=m4
  replace G:fY C h9 j0 m7 m8=some m5:=G
  unfold fY at G
  try dsimp only at hLab
  obtain⟨d4,d5,d6,d7,d8,d9,j1,J,X⟩:=hLab
  refine nz 1 J rfl fun U J=>wp_seq_k fun t3 m9=>bA J G rfl (fun n0 G=>?_) fun n0 G=>?_
  ·refine wp_skip (m9 _ _ ?_)
   refine wp_seq_k fun t4 n3=>aA fun t5 n4=>ws fun t6 n5=>xk 2 J rfl fun U J=>?_
   replace X:=(SH.pure_ j1 X).pk 1
   replace X:=bH (x:=(⟨h9⟩:S157)) X
   refine pO G aM4 J rfl (fun _ h=>mQ h X (qz+1) hZ) (fun j2 w X G=>?_) fun j2 v U w hR J G=>?_
   ·replace X:=X.drop 1
    cases G
    have ht:=i9 _ rfl
    subst ht
    replace G:=m2
    replace G:some (.inr j2)=some y:=G
    cases G
    exact hQp _ rfl _ _ J.defers X
   obtain⟨rfl,X⟩:=hR
   obtain⟨n6,n7,n8,X⟩:=aM X
   obtain⟨n9,X⟩:=(X.pk 1).unpure
   refine x_l G J rfl fun e0 _ U J G=>x_m J rfl fun U J=>wn (n5 _ _ ?_)
   refine aC (xk 2 J rfl fun U J=>?_)
   refine gW (d:=(kI .i64)) (e:=2) (ps:=#[(0,.int .i64 e0)]) (cells:=[.int .i64 e0]) (xs:=[e0]) (fun w=>by kernel_rfl) rfl ⟨[.int .i64 e0],_,rfl,rfl,rfl⟩ J X (fun t7 U w X J=>?_) rfl
   obtain⟨o0,G⟩:=aB G
   have hr:=X.rd 0 rfl
   refine gK 2 kT bN J X hr.1 hr.2.1 o0 rfl (fun o1 o2 o3 U w X J=>?_) rfl
   refine x_m J rfl fun U J=>wpList_nil (n4 _ _ ?_)
   refine n3 _ _ (aC ?_)
   refine x_l G J rfl fun t8 _ U J G=>x_m J rfl fun U J=>wpList_nil ?_
   replace X:=X.drop 1 |>.pk 1
   cases G
   exact⟨_,m6 _ rfl,n6,n7,n8,o1,o2,o3,n9,J.sub _ rfl,X⟩
  cases G
  exact wp_exit (m3 h9 j0 (i9 _ rfl) d4 d5 d6 d7 d8 d9 j1 U w (J.sub _ rfl) X)
 refine nz 2 J rfl fun U J=>bA J G rfl (fun o4 G=>?_) fun o4 G=>?_
 ·refine aA fun j3 o5=>?_
  have hb3:∀e1 e2,wZ e1 e2=some y→∀e3 e4 e5 e6 e7 e8 (j4:Imm Z wz (kI .u8) e3 e4 e5 e1) U w,FR 70 [] U [(0,(pP g0)),(5,.slice e6 e7 e8)]→SH r (blk g0 157 [.slice e3 e4 e5]::own (kI .i64) 2 e6 e7 e8 e2::L) w→j3 U w:=by
   intro e1 e2 G e3 e4 e5 e6 e7 e8 j4 U w J X
   unfold wZ at G
   exact o5 _ _ (hb1 e1 e2 G e3 e4 e5 e6 e7 e8 j4 U w (J.sub _ rfl) X)
  obtain⟨o6,o7,G⟩:=bnd G
  have j5:=G
  have o8:∀a1 a2,(.inl (a1,a2))=o6→∀e9 f2 f3 f4 f5 f6 (j6:Imm Z wz (kI .u8) e9 f2 f3 a1) U w,FR 70 [] U [(0,(pP g0)),(5,.slice f4 f5 f6)]→SH r (blk g0 157 [.slice e9 f2 f3]::own (kI .i64) 2 f4 f5 f6 a2::L) w→j3 U w:=by
   intro a1 a2 ht e9 f2 f3 f4 f5 f6 j6 U w J X
   subst ht
   replace G:uE a1 a2=some y:=G
   unfold uE at G
   exact hb3 a1 a2 G e9 f2 f3 f4 f5 f6 j6 U w (J.sub _ rfl) X
  replace X:=(SH.nil_own (d:=(kI .i64)) (e:=2) X).pk 1
  refine aD o7 (fun s U w=>∃f7 f8 f9 a3 a4 a5,Imm Z wz (kI .u8) f7 f8 f9 s.1∧FR 70 [] U [(0,(pP g0)),(4,.int .i64 C),(5,.slice a3 a4 a5)]∧SH r (blk g0 157 [.slice f7 f8 f9]::own (kI .i64) 2 a3 a4 a5 s.2::L) w) ⟨a7,a8,a9,none,0,0,H,J.sub _ rfl,X⟩ ?_
  intro t9 o9 i0 G p0 i1 U w hLab
  obtain⟨i2,j7⟩:=o9
  replace G:dQ C i2 j7=some i0:=G
  unfold dQ at G
  try dsimp only at hLab
  obtain⟨f7,f8,f9,a3,a4,a5,j8,J,X⟩:=hLab
  refine wp_seq_k fun u0 p1=>ws fun u1 p2=>xk 1 J rfl fun U J=>aU bN (X.rd 1 rfl).2.1 J (fun U J=>?_) rfl
  refine nk 2 J rfl fun U J=>p2 _ _ (bA J G rfl (fun p3 G=>?_) fun p3 G=>?_)
  ·refine wp_skip (p1 _ _ ?_)
   refine aA fun u2 p4=>ws fun u3 p5=>xk 1 J rfl fun U J=>?_
   replace X:=(SH.pure_ j8 X).pk 1
   replace X:=bH (x:=(⟨i2⟩:S157)) X
   refine pO G aM4 J rfl (fun _ h=>mQ h X (qz+1) hZ) (fun z w X G=>?_) fun z v U w hR J G=>?_
   ·replace X:=X.drop 1
    cases G
    have ht:=i1 _ rfl
    subst ht
    replace G:=j5
    replace G:some (.inr z)=some y:=G
    cases G
    exact hQp _ rfl _ _ J.defers X
   obtain⟨rfl,X⟩:=hR
   obtain⟨u4,u5,u6,X⟩:=aM X
   obtain⟨p6,X⟩:=(X.pk 1).unpure
   refine x_m J rfl fun U J=>wn (p5 _ _ ?_)
   refine ws fun u7 p7=>xk 3 J rfl fun U J=>aU bN (X.rd 1 rfl).2.1 J (fun U J=>?_) rfl
   refine x_l G J rfl fun u9 _ U J G=>x_l G J rfl fun v0 _ U J G=>gE G J (aY uu3 lT rfl (J.ev rfl)) rfl fun v1 _ U J G=>?_
   replace X:=bH (x:=z.2) ((SH.pure_ p6 X).pk 1)
   refine pO G aQo J rfl (fun _ h=>jF h X (qz+1) hZ) (fun g1 w X G=>?_) fun g1 v U w hR J G=>?_
   ·replace X:=X.drop 1
    cases G
    have ht:=i1 _ rfl
    subst ht
    replace G:=j5
    replace G:some (.inr g1)=some y:=G
    cases G
    exact hQp _ rfl _ _ J.defers X
   obtain⟨rfl,X⟩:=hR
   obtain⟨g2,g3,g4,X⟩:=aM X
   obtain⟨p8,X⟩:=(X.pk 1).unpure
   refine x_l G J rfl fun j9 _ U J G=>x_m J rfl fun U J=>wn (p7 _ _ ?_)
   refine aA fun k0 p9=>?_
   have hb4:∀i3,wM g1 i3=some i0→∀g5 g6 g7 U w,FR 70 [] U [(0,(pP g0)),(4,.int .i64 C),(5,.slice g5 g6 g7)]→SH r (blk g0 157 [.slice g2 g3 g4]::own (kI .i64) 2 g5 g6 g7 i3::L) w→k0 U w:=by
    intro i3 G g5 g6 g7 U w J X
    unfold wM at G
    cases G
    refine p9 _ _ (p4 _ _ ?_)
    exact⟨_,p0 _ rfl,g2,g3,g4,g5,g6,g7,p8,J.sub _ rfl,X⟩
   obtain⟨q0,q1,G⟩:=bnd G
   have q2:∀a6,(a6)=q0→∀g8 g9 h0 U w,FR 70 [] U [(0,(pP g0)),(4,.int .i64 C),(5,.slice g8 g9 h0)]→SH r (blk g0 157 [.slice g2 g3 g4]::own (kI .i64) 2 g8 g9 h0 a6::L) w→k0 U w:=by
    intro a6 ht g8 g9 h0 U w J X
    subst ht
    replace G:uG g1 a6=some i0:=G
    unfold uG at G
    exact hb4 a6 G g8 g9 h0 U w (J.sub _ rfl) X
   refine aD q1 (fun s U w=>∃h1 h2 h3,FR 70 [] U [(0,(pP g0)),(4,.int .i64 C),(5,.slice h1 h2 h3),(7,.int .i64 z.1),(54,.int .u64 j9),(55,.int .u64 s.2)]∧SH r (blk g0 157 [.slice g2 g3 g4]::own (kI .i64) 2 h1 h2 h3 s.1::L) w) ⟨a3,a4,a5,J.sub _ rfl,X⟩ ?_
   intro v2 q3 q4 G q5 q6 U w hLab
   obtain⟨k1,q7⟩:=q3
   replace G:iI z j9 k1 q7=some q4:=G
   unfold iI at G
   try dsimp only at hLab
   obtain⟨h1,h2,h3,J,X⟩:=hLab
   refine nz 1 J rfl fun U J=>wp_seq_k fun v3 q8=>bA J G rfl (fun q9 G=>?_) fun q9 G=>?_
   ·refine wp_skip (q8 _ _ ?_)
    refine wp_seq_k fun v4 r0=>aA fun v5 r1=>aC (xk 2 J rfl fun U J=>?_)
    refine gW (d:=(kI .i64)) (e:=2) (ps:=#[(0,.int .i64 z.1)]) (cells:=[.int .i64 z.1]) (xs:=[z.1]) (fun w=>by kernel_rfl) rfl ⟨[.int .i64 z.1],_,rfl,rfl,rfl⟩ J X (fun v6 U w X J=>?_) rfl
    obtain⟨r2,G⟩:=aB G
    have hr:=X.rd 0 rfl
    refine gK 2 kT bN J X hr.1 hr.2.1 r2 rfl (fun r3 r4 r5 U w X J=>?_) rfl
    refine x_m J rfl fun U J=>wpList_nil (r1 _ _ ?_)
    refine r0 _ _ (aC ?_)
    refine x_l G J rfl fun v7 _ U J G=>x_m J rfl fun U J=>wpList_nil ?_
    replace X:=X.drop 1 |>.pk 1
    cases G
    exact⟨_,q5 _ rfl,r3,r4,r5,J.sub _ rfl,X⟩
   cases G
   exact wp_exit (q2 k1 (q6 _ rfl) h1 h2 h3 U w (J.sub _ rfl) X)
  cases G
  exact wp_exit (o8 i2 j7 (i1 _ rfl) f7 f8 f9 a3 a4 a5 j8 U w (J.sub _ rfl) X)
 refine nz 2 J rfl fun U J=>bA J G rfl (fun r6 G=>?_) fun r6 G=>?_
 ·refine nz 2 J rfl fun U J=>bA J G rfl (fun r7 G=>?_) fun r7 G=>?_
  ·refine aC (xk 2 J rfl fun U J=>?_)
   replace X:=bH (x:=I.2) ((SH.pure_ H X).pk 1)
   refine pO G bAf J rfl (fun _ h=>aEk h X (qz+0) hZ) (fun i4 w X G=>?_) fun i4 v U w hR J G=>?_
   ·cases G
    exact hQp _ rfl _ _ J.defers X
   obtain⟨r8,r9,s2,rfl,X⟩:=hR
   obtain⟨s3,s4,s5,X⟩:=aM (X.pk 1)
   obtain⟨s6,X⟩:=(X.pk 1).unpure
   exact x_m J rfl fun U J=>wpList_nil (hb1 i4.2.f0 i4.1 G s3 s4 s5 r8 r9 s2 s6 U w (J.sub _ rfl) X)
  replace X:=(SH.nil_own (d:=(kI .i64)) (e:=2) X).pk 1
  exact wp_skip (hb1 I.2.f0 [] G a7 a8 a9 none 0 0 H U w (J.sub _ rfl) X)
 replace X:=(SH.nil_own (d:=(kI .i64)) (e:=2) X).pk 1
 exact wp_skip (hb1 I.2.f0 [] G a7 a8 a9 none 0 0 H U w (J.sub _ rfl) X)
theorem vH {a0 a1 g0 g1 y} (G:oX a0 a1=some y) (X:SH r (obj157 Z wz g0 a0::obj108 g1 a1::L) w) (qz:Nat) (hZ:L[qz]?=some (zone Z wz)) :
  RetS Tryz.prog 100 #[.pointer (some ⟨g0,0,none⟩),(pP g1)] w aC3 y (fun y v w'=>v=.tuple #[]∧SH r (obj157 Z wz g0 y.1::obj108 g1 y.2::L) w') (fun y w'=>SH r (obj157 Z wz g0 y.1::obj108 g1 y.2::L) w'):=by
 refine xB Tryz.func100 rfl Tryz.ntmps100 [(0,_),(1,_)] rfl (by simp) ?_
 intro U J Qf hQ hQn hQp
 unfold oX at G
 obtain⟨I,S,Y,X⟩:=aM X
 obtain⟨C,X⟩:=(X.pk 1).unpure
 obtain⟨a2,a3,a4,X⟩:=aD5 (X.pk 1)
 refine aC (x_m J rfl fun U J=>?_)
 replace X:=bH (x:=a0) ((SH.pure_ C X).pk 3)
 refine pO G aWc J rfl (fun _ h=>aBj h X (qz+2) hZ) (fun z w X G=>?_) fun z v U w hR J G=>?_
 ·replace X:=(aDk (x:=a1) (X.pk 2 |>.pk 2)).pk 1
  cases G
  exact hQp _ rfl _ _ J.defers X
 obtain⟨a5,a6,a7,rfl,X⟩:=hR
 obtain⟨a8,a9,b3,X⟩:=aM (X.pk 1)
 obtain⟨H,X⟩:=(X.pk 1).unpure
 refine dE 2 aY9 J X rfl (fun  U w X J=>?_) rfl
 refine wpList_nil ?_
 replace X:=(aDk (x:=z.1) ((bH (x:=z.2) ((SH.pure_ H X).pk 2)).pk 2 |>.pk 2)).drop 2 |>.pk 1
 cases G
 refine hQn _ rfl _ _ (aCo Tryz.results100 J ?_)
 exact⟨rfl,X⟩
theorem xZ {a0 C A0 n0 c0 z y} (G:oO a0 C=some y) (X:SH r (obj108 z C::L) w) (qz:Nat) (hZ:L[qz]?=some (zone Z wz)) (ha0:Imm Z wz (kI .u8) A0 n0 c0 a0) :
  Ret Tryz.prog 75 #[.slice A0 n0 c0,.func (.func 100) #[] #[.pointer (some ⟨z,0,none⟩)]] w fun v w'=>v=.bool y.1∧SH r (obj108 z y.2::L) w':=by
 obtain⟨y',hy,G⟩:=bnd G
 refine Ret.mono_ (aFi (R:=fun v w'=>v=.bool y.1∧SH r (obj108 z y.2::L) w') bBg X (fun g g4 w1 hS1=>?_)) (fun v w' h=>h)
 replace hS1:=bH (x:=⟨a0⟩) (hS1.pk 1 |> fun h=>(SH.pure_ ha0 (h.pk 1)).pk 1)
 replace hS1:=hS1.pk 1
 replace hS1:=hS1.pk 2
 replace hS1:=hS1.pk 2
 rcases y' with y' | y'
 ·replace G:=aSs G
  cases G
  left
  refine Ret.mono_ (RetS.lf (vH hy hS1 (qz+1) hZ :)) ?_
  rintro v w2 ⟨rfl,X⟩
  replace X:=X.pk 2 |>.pk 1
  obtain⟨A',n',c',X⟩:=aM X
  have hQ:=SH.unpure (X.pk 1)
  clear X
  obtain⟨hi,X⟩:=hQ
  refine⟨_,A',n',c',X,fun w3 h3=>⟨?_,h3⟩⟩
  rw [← hi.ln]
 ·replace G:=aRv G
  cases G
  right
  refine Calls.mono (RetS.rf (vH hy hS1 (qz+1) hZ :)) ?_
  rintro e w2 ⟨rfl,X⟩
  replace X:=X.pk 2 |>.drop 1
  exact⟨rfl,_,X,fun w3 h3=>⟨rfl,h3⟩⟩
theorem oV {a0 A0 n0 c0 y} (G:iK a0=some y) (X:SH r (L) w) (qz:Nat) (hZ:L[qz]?=some (zone Z wz)) (ha0:Imm Z wz (kI .u8) A0 n0 c0 a0) :
  Ret Tryz.prog 78 #[.slice A0 n0 c0] w fun v w'=>∃ (B0:Option Addr) (m0:Nat) (d0:Nat),v=.tuple #[(.slice B0 m0 d0),(.int .i64 y.2)]∧SH r (own (kI .i64) 2 B0 m0 d0 y.1::L) w':=by
 refine enter Tryz.func78 rfl Tryz.ntmps78 [(0,_)] rfl (by simp) ?_
 intro U J Qf hQ hQn
 unfold iK at G
 refine nz 2 J rfl fun U J=>ws fun a4 h=>gP (cs:=[.slice none 0 0]) bBi J X (fun z U w X J=>?_) rfl
 refine wn (h _ _ ?_)
 refine wp_seq_k fun a5 C=>ws fun a6 H=>xk 1 J rfl fun U J=>x_v J (mN rfl (rX (vals:=#[]) J rfl) (rX (vals:=#[.pointer (some ⟨z,0,none⟩)]) J rfl)) rfl fun U J=>?_
 replace X:=aDk (x:=[]) ((SH.nil_own (d:=(kI .i64)) (e:=2) X).pk 1)
 obtain⟨a7,I,G⟩:=bnd G
 refine x_c aW7 J rfl (xZ I X (qz+0) hZ ha0 :) fun v U w hR J=>?_
 obtain⟨rfl,X⟩:=hR
 obtain⟨S,Y,a1,X⟩:=aD5 X
 refine nk 1 J rfl fun U J=>H _ _ (bA J G rfl (fun a2 G=>?_) fun a2 G=>?_)
 ·refine nz 2 J rfl fun U J=>?_
  replace X:=(SH.nil_own (d:=(kI .i64)) (e:=2) X).drop 1 |>.drop 1
  cases G
  refine wp_ret (hQ _ _ ?_)
  exact lv2 Tryz.results78 J rfl rfl ⟨none,0,0,rfl,X⟩
 refine wp_skip (C _ _ ?_)
 refine ws fun a8 a3=>aG bN (X.cell 0 rfl 0 _ rfl) J (fun U J=>?_) rfl
 refine nk 2 J rfl fun U J=>?_
 replace X:=X.drop 0
 cases G
 refine a3 _ _ (wp_ret ?_)
 refine hQ _ _ (lv2 Tryz.results78 J rfl rfl ?_)
 exact⟨S,Y,a1,rfl,X⟩
end
noncomputable section
set_option linter.unusedSimpArgs false
def yZ (a0:Nat):Option (Bool) :=
  some (!feq a0 a0)
def uB (a0:Nat):Option (Nat) :=
  (yZ a0).bind fun h=>(if h=true then (some ((9221120237041090560:Int).toNat)) else (some a0))
def wK (a0:Nat):Option (Int) :=
  (uB a0).bind fun h=>(some (h:Int))
def aB7 (a0:Int):Option (Nat) :=
  (uB a0.toNat).bind fun h=>(some h)
def uT (a0:Nat) (h:Bool):Option (Int) :=
  if h=true then (some 9221120237041090560) else (some (a0:Int))
def yH (a0:Nat):Option (Int) :=
  ltt (bT .u64 (a0:Int) 52) fun h=>(ltt (h.tmod 2048) fun z=>(if (z==2047)=true then (ltt ((a0:Int).tmod 4503599627370496) fun C=>(uT a0 (C != 0))) else (uT a0 false)))
def zN (a0:Nat) (a1:Nat):Option (Bool) :=
  (yH a0).bind fun h=>((yH a1).bind fun z=>(some (h==z)))
def qT (h:(List Nat)):Option ((List Nat)×Int) :=
  some (h,0)
def oQ (h:(List Nat)):Option ((List Nat)×Int) :=
  qT h
def dI (G:((List Int)×Int)) (h:(List Nat)) (z:Int):Option (((List Nat)×Int)⊕(((List Nat))⊕((List Nat)×Int))) :=
  if (decide (z<(G.1.length:Int)))=true then ((at_ G.1 z).bind fun I=>(ltt (IntKind.u64.wrap I) fun H=>((aB7 H).bind fun C=>((wK C).bind fun J=>(if (J != H)=true then (some (.inr (.inr ([],3)))) else (chk (h.length+[C].length≤140737488355328 / 8) (ltt (IntKind.i64.wrap (z+1)) fun S=>(some (.inl (h++[C],S)))))))))) else (some (.inr (.inl (h))))
def nI (a0:(List Int)):Option ((List Nat)×Int) :=
  (iK a0).bind fun h=>(if (h.2 != 0)=true then (some ([],h.2)) else ((loop (fun s=>dI h s.1 s.2) ([],0)).bind fun t=>match t with | (.inl t)=>oQ t | (.inr t)=>some t))
end
section
variable {r:World} {L:List HP} {w:World} {Z:Nat→Prop} {wz:World}
theorem aIw {a0 y} (G:yZ a0=some y) (X:SH r (L) w) :
  Ret Tryz.prog 135 #[.float .f64 a0] w fun v w'=>v=.bool y∧SH r (L) w':=by
 refine enter Tryz.func135 rfl Tryz.ntmps135 [(0,_)] rfl (by simp) ?_
 intro U J Qf hQ hQn
 unfold yZ at G
 refine nz 1 J rfl fun U J=>ws fun z h=>xk 2 J rfl fun U J=>x_v J (bAp rfl (J.ev rfl) (J.ev rfl)) rfl fun U J=>x_m J rfl fun U J=>wn (h _ _ ?_)
 cases G
 refine wp_ret (hQ _ _ ?_)
 exact lv Tryz.results135 J rfl ⟨rfl,X⟩
theorem aB6 {a0 y} (G:uB a0=some y) (X:SH r (L) w) :
  Ret Tryz.prog 117 #[.float .f64 a0] w fun v w'=>v=.float .f64 y∧SH r (L) w':=by
 refine enter Tryz.func117 rfl Tryz.ntmps117 [(0,_)] rfl (by simp) ?_
 intro U J Qf hQ hQn
 unfold uB at G
 refine nz 1 J rfl fun U J=>wp_seq_k fun S h=>ws fun Y z=>xk 1 J rfl fun U J=>?_
 obtain⟨a1,C,G⟩:=bnd G
 refine x_c bAl J rfl (aIw C X :) fun v U w hR J=>?_
 obtain⟨rfl,X⟩:=hR
 refine wn (z _ _ ?_)
 refine bA J G rfl (fun H G=>?_) fun H G=>?_
 ·refine ws fun a2 I=>x_v J (aNt (aVt _) rfl (evs J rfl)) rfl fun U J=>x_m J rfl fun U J=>wn (I _ _ ?_)
  cases G
  refine wp_ret (hQ _ _ ?_)
  exact lv Tryz.results117 J rfl ⟨rfl,X⟩
 refine wp_skip (h _ _ ?_)
 refine nz 2 J rfl fun U J=>?_
 cases G
 refine wp_ret (hQ _ _ ?_)
 exact lv Tryz.results117 J rfl ⟨rfl,X⟩
theorem aD8 {a0 y} (G:wK a0=some y) (X:SH r (L) w) :
  Ret Tryz.prog 90 #[.float .f64 a0] w fun v w'=>v=.int .u64 y∧SH r (L) w':=by
 refine enter Tryz.func90 rfl Tryz.ntmps90 [(0,_)] rfl (by simp) ?_
 intro U J Qf hQ hQn
 unfold wK at G
 refine nz 1 J rfl fun U J=>ws fun C h=>xk 1 J rfl fun U J=>?_
 obtain⟨H,z,G⟩:=bnd G
 refine x_c aWh J rfl (aB6 z X :) fun v U w hR J=>?_
 obtain⟨rfl,X⟩:=hR
 refine x_v J (aNt (aZl _) rfl (evs J rfl)) rfl fun U J=>x_m J rfl fun U J=>wn (h _ _ ?_)
 cases G
 refine wp_ret (hQ _ _ ?_)
 exact lv Tryz.results90 J rfl ⟨rfl,X⟩
theorem aO4 {a0 y} (G:aB7 a0=some y) (X:SH r (L) w) :
  Ret Tryz.prog 104 #[.int .u64 a0] w fun v w'=>v=.float .f64 y∧SH r (L) w':=by
 refine enter Tryz.func104 rfl Tryz.ntmps104 [(0,_)] rfl (by simp) ?_
 intro U J Qf hQ hQn
 unfold aB7 at G
 refine nz 1 J rfl fun U J=>ws fun C h=>xk 1 J rfl fun U J=>x_v J (aNt (aVt _) rfl (evs J rfl)) rfl fun U J=>?_
 obtain⟨H,z,G⟩:=bnd G
 refine x_c aWh J rfl (aB6 z X :) fun v U w hR J=>?_
 obtain⟨rfl,X⟩:=hR
 refine x_m J rfl fun U J=>wn (h _ _ ?_)
 cases G
 refine wp_ret (hQ _ _ ?_)
 exact lv Tryz.results104 J rfl ⟨rfl,X⟩
theorem aGf {a0 y} (G:yH a0=some y) (X:SH r (L) w) :
  Ret Tryz.prog 63 #[.float .f64 a0] w fun v w'=>v=.int .u64 y∧SH r (L) w':=by
 refine enter Tryz.func63 rfl Tryz.ntmps63 [(0,_)] rfl (by simp) ?_
 intro U J Qf hQ hQn
 unfold yH at G
 refine nz 1 J rfl fun U J=>ws fun a2 C=>xk 1 J rfl fun U J=>x_v J (aNt (aZl _) rfl (evs J rfl)) rfl fun U J=>x_m J rfl fun U J=>wn (C _ _ ?_)
 refine wp_seq_k fun a3 H=>wp_seq_k fun I S=>?_
 have hj1:∀z,uT a0 z=some y→∀U w,FR 16 [] U [(3,.int .u64 (a0:Int)),(14,.bool z)]→SH r (L) w→I U w:=by
  intro z G U w J X
  unfold uT at G
  refine S _ _ (bA J G rfl (fun Y G=>?_) fun Y G=>?_)
  ·refine nz 1 J rfl fun U J=>?_
   cases G
   refine wp_ret (hQ _ _ ?_)
   exact lv Tryz.results63 J rfl ⟨rfl,X⟩
  refine wp_skip (H _ _ ?_)
  refine nz 2 J rfl fun U J=>?_
  cases G
  refine wp_ret (hQ _ _ ?_)
  exact lv Tryz.results63 J rfl ⟨rfl,X⟩
 refine aC (x_m J rfl fun U J=>?_)
 refine gE G J (rE rfl (J.ev rfl) (J.ev rfl) (by decide)) rfl fun a4 _ U J G=>gE G J (aE6 rfl (J.ev rfl) (J.ev rfl) (by decide)) rfl fun a5 _ U J G=>xk 2 J rfl fun U J=>bcG G (fun h G=>?_) fun h G=>?_
 ·refine xg 1 h J rfl rfl fun U J=>aJ h J ?_ rfl
  exact gE G J (aE6 rfl (J.ev rfl) (J.ev rfl) (by decide)) rfl fun a1 _ U J G=>ng 2 h J rfl rfl fun U J=>hj1 (a1 != 0) G U w (J.sub _ rfl) X
 exact ng 4 h J rfl rfl fun U J=>hj1 false G U w (J.sub _ rfl) X
theorem aMp {a0 a1 y} (G:zN a0 a1=some y) (X:SH r (L) w) :
  Ret Tryz.prog 46 #[.float .f64 a0,.float .f64 a1] w fun v w'=>v=.bool y∧SH r (L) w':=by
 refine enter Tryz.func46 rfl Tryz.ntmps46 [(0,_),(1,_)] rfl (by simp) ?_
 intro U J Qf hQ hQn
 unfold zN at G
 refine nz 1 J rfl fun U J=>ws fun H h=>xk 1 J rfl fun U J=>?_
 obtain⟨I,z,G⟩:=bnd G
 refine x_c aZ8 J rfl (aGf z X :) fun v U w hR J=>?_
 obtain⟨rfl,X⟩:=hR
 refine x_m J rfl fun U J=>?_
 obtain⟨S,C,G⟩:=bnd G
 refine x_c aZ8 J rfl (aGf C X :) fun v U w hR J=>?_
 obtain⟨rfl,X⟩:=hR
 refine nk 2 J rfl fun U J=>?_
 cases G
 refine h _ _ (wp_ret ?_)
 refine hQ _ _ (lv Tryz.results46 J rfl ?_)
 exact⟨rfl,X⟩
theorem aBv {a0 A0 n0 c0 y} (G:nI a0=some y) (X:SH r (L) w) (qz:Nat) (hZ:L[qz]?=some (zone Z wz)) (ha0:Imm Z wz (kI .u8) A0 n0 c0 a0) :
  Ret Tryz.prog 80 #[.slice A0 n0 c0] w fun v w'=>∃ (B0:Option Addr) (m0:Nat) (d0:Nat),v=.tuple #[(.slice B0 m0 d0),(.int .i64 y.2)]∧SH r (own kF 45 B0 m0 d0 y.1::L) w':=by
 refine enter Tryz.func80 rfl Tryz.ntmps80 [(0,_)] rfl (by simp) ?_
 intro U J Qf hQ hQn
 unfold nI at G
 refine nz 2 J rfl fun U J=>ws fun f6 b7=>xk 1 J rfl fun U J=>?_
 obtain⟨a5,b8,G⟩:=bnd G
 refine x_c aTl J rfl (oV b8 X (qz+0) hZ ha0 :) fun v U w hR J=>?_
 obtain⟨a7,a8,a9,rfl,X⟩:=hR
 refine nk 5 J rfl fun U J=>b7 _ _ (wp_seq_k fun f7 b9=>?_)
 refine nz 2 J rfl fun U J=>bA J G rfl (fun c3 G=>?_) fun c3 G=>?_
 ·refine nz 3 J rfl fun U J=>?_
  replace X:=(SH.nil_own (d:=kF) (e:=45) X).drop 1
  cases G
  refine wp_ret (hQ _ _ ?_)
  exact lv2 Tryz.results80 J rfl rfl ⟨none,0,0,rfl,X⟩
 refine wp_skip (b9 _ _ ?_)
 refine nz 1 J rfl fun U J=>wp_seq_k fun f8 c4=>ws fun f9 c5=>xk 1 J rfl fun U J=>aU bN (X.rd 0 rfl).2.1 J (fun U J=>?_) rfl
 refine x_m J rfl fun U J=>wn (c5 _ _ ?_)
 refine aA fun b3 c6=>?_
 have hb1:∀a6,qT a6=some y→∀z C H U w,FR 38 [] U [(6,.slice z C H)]→SH r (own kF 45 z C H a6::L) w→b3 U w:=by
  intro a6 G z C H U w J X
  unfold qT at G
  refine c6 _ _ (c4 _ _ ?_)
  refine nz 3 J rfl fun U J=>?_
  cases G
  refine wp_ret (hQ _ _ ?_)
  exact lv2 Tryz.results80 J rfl rfl ⟨z,C,H,rfl,X⟩
 obtain⟨c7,c8,G⟩:=bnd G
 have c9:=G
 have d1:∀h,(.inl (h))=c7→∀I S Y U w,FR 38 [] U [(6,.slice I S Y)]→SH r (own kF 45 I S Y h::L) w→b3 U w:=by
  intro h ht I S Y U w J X
  subst ht
  replace G:oQ h=some y:=G
  unfold oQ at G
  exact hb1 h G I S Y U w (J.sub _ rfl) X
 replace X:=SH.nil_own (d:=kF) (e:=45) X
 refine aD c8 (fun s U w=>∃a1 a2 a3,FR 38 [] U [(6,.slice a1 a2 a3),(18,.slice a7 a8 a9),(19,.int .i64 (a5.1.length:Int)),(20,.int .i64 s.2)]∧SH r (own kF 45 a1 a2 a3 s.1::own (kI .i64) 2 a7 a8 a9 a5.1::L) w) ⟨none,0,0,J.sub _ rfl,X⟩ ?_
 intro g0 d2 d3 G d4 b4 U w hLab
 obtain⟨b5,d5⟩:=d2
 replace G:dI a5 b5 d5=some d3:=G
 unfold dI at G
 try dsimp only at hLab
 obtain⟨a1,a2,a3,J,X⟩:=hLab
 refine nz 1 J rfl fun U J=>wp_seq_k fun g1 d6=>bA J G rfl (fun d7 G=>?_) fun d7 G=>?_
 ·refine wp_skip (d6 _ _ ?_)
  refine wp_seq_k fun g2 d8=>aA fun g3 d9=>ws fun g4 e0=>?_
  obtain⟨g5,b6,G⟩:=bnd G
  refine fG bN sz2 (X.rd 1 rfl) b6 J (fun U J=>?_) rfl
  obtain⟨cs,hV,e1⟩:=el (X.rd 1 rfl) b6
  obtain rfl:=hV
  refine aG uu2 (e1 0 _ rfl) J (fun U J=>?_) rfl
  refine x_m J rfl fun U J=>wn (e0 _ _ ?_)
  refine ws fun g6 e2=>xk 1 J rfl fun U J=>gE G J (aY uu2 lT rfl (J.ev rfl)) rfl fun e3 e4 U J G=>?_
  obtain⟨a4,e5,G⟩:=bnd G
  refine x_c aZ6 J rfl (aO4 e5 X :) fun v U w hR J=>?_
  obtain⟨rfl,X⟩:=hR
  refine x_m J rfl fun U J=>wn (e2 _ _ ?_)
  refine wp_seq_k fun g7 e6=>ws fun g8 e7=>xk 1 J rfl fun U J=>?_
  obtain⟨g9,e8,G⟩:=bnd G
  refine x_c bAw J rfl (aD8 e8 X :) fun v U w hR J=>?_
  obtain⟨rfl,X⟩:=hR
  refine x_m J rfl fun U J=>x_v (v:=.int .u64 e3) J (kR e4 (aY uu2 lT rfl (J.ev rfl))) rfl fun U J=>nk 1 J rfl fun U J=>e7 _ _ (bA J G rfl (fun e9 G=>?_) fun e9 G=>?_)
  ·refine nz 2 J rfl fun U J=>?_
   replace X:=(SH.nil_own (d:=kF) (e:=45) X).drop 1 |>.drop 1
   cases G
   refine wp_ret ?_
   have ht:=b4 _ rfl
   subst ht
   replace G:=c9
   replace G:some ([],3)=some y:=G
   cases G
   refine hQ _ _ (lv2 Tryz.results80 J rfl rfl ?_)
   exact⟨none,0,0,rfl,X⟩
  refine wp_skip (e6 _ _ ?_)
  refine aC (xk 2 J rfl fun U J=>?_)
  refine gW (d:=kF) (e:=45) (ps:=#[(0,.float .f64 a4)]) (cells:=[.float .f64 a4]) (xs:=[a4]) (fun w=>by kernel_rfl) rfl ⟨[.float .f64 a4],_,rfl,rfl,rfl⟩ J X (fun h0 U w X J=>?_) rfl
  obtain⟨f2,G⟩:=aB G
  have hr:=X.rd 0 rfl
  refine gK 1 aNp aCx J X hr.1 hr.2.1 f2 rfl (fun f3 f4 f5 U w X J=>?_) rfl
  refine x_m J rfl fun U J=>wpList_nil (d9 _ _ ?_)
  refine d8 _ _ (aC ?_)
  refine x_l G J rfl fun h1 _ U J G=>x_m J rfl fun U J=>wpList_nil ?_
  replace X:=X.drop 1
  cases G
  exact⟨_,d4 _ rfl,f3,f4,f5,J.sub _ rfl,X⟩
 replace X:=X.drop 1
 cases G
 exact wp_exit (d1 b5 (b4 _ rfl) a1 a2 a3 U w (J.sub _ rfl) X)
end
noncomputable section
set_option linter.unusedSimpArgs false
def rF (h:(List Int)):Option ((List Int)) :=
  (lX h).bind fun z=>(some z)
def oT (h:(List Int)):Option ((List Int)) :=
  rF h
def iL (a0:(List Nat)) (h:(List Int)) (z:Int):Option (((List Int)×Int)⊕(((List Int)))) :=
  if (decide (z<(a0.length:Int)))=true then ((at_ a0 z).bind fun G=>((wK G).bind fun H=>(ltt (IntKind.i64.wrap H) fun C=>(chk (h.length+[C].length≤140737488355328 / 8) (ltt (IntKind.i64.wrap (z+1)) fun I=>(some (.inl (h++[C],I)))))))) else (some (.inr (h)))
def tA (a0:(List Nat)):Option ((List Int)) :=
  (loop (fun s=>iL a0 s.1 s.2) ([],0)).bind fun t=>oT t
end
section
variable {r:World} {L:List HP} {w:World} {Z:Nat→Prop} {wz:World}
theorem aGc {a0 A0 n0 c0 y} (G:tA a0=some y) (X:SH r (L) w) (ha0:RdL L kF A0 n0 c0 a0) :
  Ret Tryz.prog 68 #[.slice A0 n0 c0] w fun v w'=>∃ (B0:Option Addr) (m0:Nat) (d0:Nat),v=.slice B0 m0 d0∧SH r (own (kI .u8) 5 B0 m0 d0 y::L) w':=by
 refine enter Tryz.func68 rfl Tryz.ntmps68 [(0,_)] rfl (by simp) ?_
 intro U J Qf hQ hQn
 unfold tA at G
 refine nz 1 J rfl fun U J=>nz 1 J rfl fun U J=>wp_seq_k fun e3 a9=>ws fun e4 b3=>xk 1 J rfl fun U J=>aU aCx (X.rdl 0 ha0 rfl).2.1 J (fun U J=>?_) rfl
 refine x_m J rfl fun U J=>wn (b3 _ _ ?_)
 refine aA fun a6 b4=>?_
 have hb1:∀a2,rF a2=some y→∀a3 a4 a5 U w,FR 21 [] U [(3,.slice a3 a4 a5)]→SH r (own (kI .i64) 2 a3 a4 a5 a2::L) w→a6 U w:=by
  intro a2 G a3 a4 a5 U w J X
  unfold rF at G
  refine b4 _ _ (a9 _ _ ?_)
  refine ws fun e5 b5=>xk 1 J rfl fun U J=>?_
  obtain⟨e6,b6,G⟩:=bnd G
  refine x_c aRo J rfl (rC b6 X (RdL.own 0 rfl (X.dropN 0)) :) fun v U w hR J=>?_
  obtain⟨b7,b8,b9,rfl,X⟩:=hR
  refine x_m J rfl fun U J=>wn (b5 _ _ ?_)
  replace X:=X.drop 1
  cases G
  refine wp_ret (hQ _ _ ?_)
  exact lv Tryz.results68 J rfl ⟨b7,b8,b9,rfl,X⟩
 obtain⟨c3,c4,G⟩:=bnd G
 have c5:∀h,(h)=c3→∀z C H U w,FR 21 [] U [(3,.slice z C H)]→SH r (own (kI .i64) 2 z C H h::L) w→a6 U w:=by
  intro h ht z C H U w J X
  subst ht
  replace G:oT h=some y:=G
  unfold oT at G
  exact hb1 h G z C H U w (J.sub _ rfl) X
 replace X:=SH.nil_own (d:=(kI .i64)) (e:=2) X
 refine aD c4 (fun s U w=>∃I S Y,FR 21 [] U [(3,.slice I S Y),(6,.slice A0 n0 c0),(7,.int .i64 (a0.length:Int)),(8,.int .i64 s.2)]∧SH r (own (kI .i64) 2 I S Y s.1::L) w) ⟨none,0,0,J.sub _ rfl,X⟩ ?_
 intro e7 c6 c7 G c8 c9 U w hLab
 obtain⟨a7,d1⟩:=c6
 replace G:iL a0 a7 d1=some c7:=G
 unfold iL at G
 try dsimp only at hLab
 obtain⟨I,S,Y,J,X⟩:=hLab
 refine nz 1 J rfl fun U J=>wp_seq_k fun e8 d2=>bA J G rfl (fun d3 G=>?_) fun d3 G=>?_
 ·refine wp_skip (d2 _ _ ?_)
  refine wp_seq_k fun e9 d4=>aA fun f2 d5=>ws fun f3 d6=>?_
  obtain⟨f4,a8,G⟩:=bnd G
  refine fG aCx aXs (X.rdl 1 ha0 rfl) a8 J (fun U J=>?_) rfl
  obtain⟨cs,hV,d7⟩:=el (X.rdl 1 ha0 rfl) a8
  obtain rfl:=hV
  refine aG aKx (d7 0 _ rfl) J (fun U J=>?_) rfl
  refine x_m J rfl fun U J=>wn (d6 _ _ ?_)
  refine aC (xk 2 J rfl fun U J=>?_)
  obtain⟨f5,d8,G⟩:=bnd G
  refine x_c bAw J rfl (aD8 d8 X :) fun v U w hR J=>?_
  obtain⟨rfl,X⟩:=hR
  refine gE G J (aY lT uu2 rfl (J.ev rfl)) rfl fun a1 _ U J G=>gW (d:=(kI .i64)) (e:=2) (ps:=#[(0,.int .i64 a1)]) (cells:=[.int .i64 a1]) (xs:=[a1]) (fun w=>by kernel_rfl) rfl ⟨[.int .i64 a1],_,rfl,rfl,rfl⟩ J X (fun f6 U w X J=>?_) rfl
  obtain⟨d9,G⟩:=aB G
  have hr:=X.rd 0 rfl
  refine gK 1 kT bN J X hr.1 hr.2.1 d9 rfl (fun e0 e1 e2 U w X J=>?_) rfl
  refine x_m J rfl fun U J=>wpList_nil (d5 _ _ ?_)
  refine d4 _ _ (aC ?_)
  refine x_l G J rfl fun f7 _ U J G=>x_m J rfl fun U J=>wpList_nil ?_
  replace X:=X.drop 1
  cases G
  exact⟨_,c8 _ rfl,e0,e1,e2,J.sub _ rfl,X⟩
 cases G
 exact wp_exit (c5 a7 (c9 _ rfl) I S Y U w (J.sub _ rfl) X)
end
noncomputable section
set_option linter.unusedSimpArgs false
def lK:Option (Int) :=
  some (-1)
def jW:Option (Int) :=
  lK
def dO (a0:(List Bool)) (a1:Bool) (h:Int):Option ((Int)⊕((Unit)⊕(Int))) :=
  if (decide (h<(a0.length:Int)))=true then ((at_ a0 h).bind fun z=>(if (a1==z)=true then (some (.inr (.inr h))) else (ltt (IntKind.i64.wrap (h+1)) fun C=>(some (.inl (C)))))) else (some (.inr (.inl ())))
def jY (a0:(List Bool)) (a1:Bool):Option (Int) :=
  (loop (fun s=>dO a0 a1 s) (0)).bind fun t=>match t with | (.inl t)=>jW | (.inr t)=>some t
def fR (a0:(List Bool)) (a1:Bool):Option (Bool) :=
  (jY a0 a1).bind fun h=>(some (decide (0≤h)))
def lF (C:(List Int)) (z:(List (List UInt8))) (G:(List Bool)):Option ((S157×(List (List UInt8)))⊕(S157×(List (List UInt8)))) :=
  (fR G false).bind fun H=>((aL (⟨C⟩:S157) (!H)).bind fun h=>(mO h (fun h=>(some (.inl (h,z)))) (fun h=>(some (.inr (h,z))))))
def jL (h:(List Int)) (z:(List (List UInt8))) (C:(List Bool)):Option ((S157×(List (List UInt8)))⊕(S157×(List (List UInt8)))) :=
  lF h z C
def iQ (H:(List (List UInt8))) (z:(List (List UInt8))) (C:(List Bool)) (I:Int) (h:Int) (J:(List Int)):Option (((List Int)×(List (List UInt8))×(List Bool)×Int)⊕(((List Int)×(List (List UInt8))×(List Bool))⊕((S157×(List (List UInt8)))⊕(S157×(List (List UInt8)))))) :=
  (at_ C h).bind fun U=>((at_ H h).bind fun G=>(chk (z.length+[G].length≤140737488355328 / 16) (ltt (IntKind.i64.wrap (I+1)) fun S=>(some (.inl (J,z++[G],C.set h.toNat true,S))))))
def bZ (I:(List (List UInt8))) (U:((List Int)×S157)) (J:(List Int)) (h:(List (List UInt8))) (S:(List Bool)) (G:Int):Option (((List Int)×(List (List UInt8))×(List Bool)×Int)⊕(((List Int)×(List (List UInt8))×(List Bool))⊕((S157×(List (List UInt8)))⊕(S157×(List (List UInt8)))))) :=
  if (decide (G<(U.1.length:Int)))=true then ((at_ U.1 G).bind fun H=>(if (decide (0≤H))=true then ((aL (⟨J⟩:S157) (decide (H<(I.length:Int)))).bind fun z=>(mO z (fun z=>(iQ I h S G H z.f0)) (fun z=>(some (.inr (.inr (.inr (z,h)))))))) else ((aL (⟨J⟩:S157) false).bind fun C=>(mO C (fun C=>(iQ I h S G H C.f0)) (fun C=>(some (.inr (.inr (.inr (C,h)))))))))) else (some (.inr (.inl (J,h,S))))
def lE (a1:(List (List UInt8))) (C:(List Int)) (z:(List (List UInt8))):Option ((S157×(List (List UInt8)))⊕(S157×(List (List UInt8)))) :=
  chk (0≤(z.length:Int)∧(1:Int) * (z.length:Int)≤140737488355328) ((rT (⟨C⟩:S157)).bind fun h=>(mO h (fun h=>((loop (fun s=>bZ z h s.1 s.2.1 s.2.2.1 s.2.2.2) (h.2.f0,a1,List.replicate (z.length:Int).toNat (false:Bool),0)).bind fun t=>match t with | (.inl t)=>jL t.1 t.2.1 t.2.2 | (.inr t)=>some t)) (fun h=>(some (.inr (h,a1))))))
def jJ (a1:(List (List UInt8))) (h:(List Int)) (z:(List (List UInt8))):Option ((S157×(List (List UInt8)))⊕(S157×(List (List UInt8)))) :=
  lE a1 h z
def fX (h:(List (List UInt8))) (C:Int) (z:((List UInt8)×S157)) (G:(List Int)):Option (((List Int)×(List (List UInt8))×Int)⊕(((List Int)×(List (List UInt8)))⊕((S157×(List (List UInt8)))⊕(S157×(List (List UInt8)))))) :=
  chk (h.length+[z.1].length≤140737488355328 / 16) (ltt (IntKind.u64.wrap (C+1)) fun H=>(some (.inl (G,h++[z.1],H))))
def cI (a1:(List (List UInt8))) (J:(Int×S157)) (I:(List Int)) (z:(List (List UInt8))) (H:Int):Option (((List Int)×(List (List UInt8))×Int)⊕(((List Int)×(List (List UInt8)))⊕((S157×(List (List UInt8)))⊕(S157×(List (List UInt8)))))) :=
  if (decide (H<J.1))=true then ((iU (⟨I⟩:S157) 32).bind fun h=>(mO h (fun h=>(if ((z.length:Int)==0)=true then ((aL h.2 true).bind fun C=>(mO C (fun C=>(fX z H h C.f0)) (fun C=>(some (.inr (.inr (.inr (C,a1)))))))) else (ltt (IntKind.i64.wrap ((z.length:Int) - 1)) fun S=>((at_ z S).bind fun U=>((aL h.2 (Op.bytesLess U h.1)).bind fun G=>(mO G (fun G=>(fX z H h G.f0)) (fun G=>(some (.inr (.inr (.inr (G,a1)))))))))))) (fun h=>(some (.inr (.inr (.inr (h,a1)))))))) else (some (.inr (.inl (I,z))))
def iW (a0:S157) (a1:(List (List UInt8))):Option ((S157×(List (List UInt8)))⊕(S157×(List (List UInt8)))) :=
  (eS a0 4096).bind fun h=>(mO h (fun h=>((loop (fun s=>cI a1 h s.1 s.2.1 s.2.2) (h.2.f0,[],0)).bind fun t=>match t with | (.inl t)=>jJ a1 t.1 t.2 | (.inr t)=>some t)) (fun h=>(some (.inr (h,a1)))))
def nS (a0:(List Int)) (h:(List (List UInt8))):Option (Bool×(List (List UInt8))) :=
  (iW (⟨a0⟩:S157) h).bind fun y=>(mO y (fun y=>some ((((y.1.f0.length:Int)==0),y.2))) (fun y=>some ((false,y.2))))
def nH (a0:(List Int)):Option ((List (List UInt8))×Int) :=
  (nS a0 []).bind fun h=>(if (!h.1)=true then (some ([],3)) else (some (h.2,0)))
end
section
variable {r:World} {L:List HP} {w:World} {Z:Nat→Prop} {wz:World}
theorem xU {a0 a1 A0 n0 c0 y} (G:jY a0 a1=some y) (X:SH r (L) w) (ha0:RdL L kB A0 n0 c0 a0) :
  Ret Tryz.prog 123 #[.slice A0 n0 c0,.bool a1] w fun v w'=>v=.int .i64 y∧SH r (L) w':=by
 refine enter Tryz.func123 rfl Tryz.ntmps123 [(0,_),(1,_)] rfl (by simp) ?_
 intro U J Qf hQ hQn
 unfold jY at G
 refine nz 1 J rfl fun U J=>wp_seq_k fun b9 I=>ws fun c3 S=>xk 1 J rfl fun U J=>aU aNu (X.rdl 0 ha0 rfl).2.1 J (fun U J=>?_) rfl
 refine x_m J rfl fun U J=>wn (S _ _ ?_)
 refine aA fun h Y=>?_
 have hb1:lK=some y→∀U w,FR 19 [] U []→SH r (L) w→h U w:=by
  intro G U w J X
  unfold lK at G
  refine Y _ _ (I _ _ ?_)
  refine nz 1 J rfl fun U J=>?_
  cases G
  refine wp_ret (hQ _ _ ?_)
  exact lv Tryz.results123 J rfl ⟨rfl,X⟩
 obtain⟨a2,a3,G⟩:=bnd G
 have a4:=G
 have a5:(.inl ())=a2→∀U w,FR 19 [] U []→SH r (L) w→h U w:=by
  intro ht U w J X
  subst ht
  replace G:jW=some y:=G
  unfold jW at G
  exact hb1 G U w (J.sub _ rfl) X
 refine aD a3 (fun s U w=>FR 19 [] U [(0,.slice A0 n0 c0),(1,.bool a1),(7,.int .i64 (a0.length:Int)),(8,.int .i64 s)]∧SH r (L) w) ⟨J.sub _ rfl,X⟩ ?_
 intro c4 a6 a7 G a8 z U w hLab
 obtain⟨C,rfl⟩:∃ q,q=a6:=⟨_,rfl⟩
 replace G:dO a0 a1 C=some a7:=G
 unfold dO at G
 try dsimp only at hLab
 obtain⟨J,X⟩:=hLab
 refine nz 1 J rfl fun U J=>wp_seq_k fun c5 a9=>bA J G rfl (fun b3 G=>?_) fun b3 G=>?_
 ·refine wp_skip (a9 _ _ ?_)
  refine wp_seq_k fun c6 b4=>aA fun c7 b5=>nz 2 J rfl fun U J=>ws fun c8 b6=>xk 3 J rfl fun U J=>?_
  obtain⟨c9,H,G⟩:=bnd G
  refine fG aNu sz4 (X.rdl 0 ha0 rfl) H J (fun U J=>?_) rfl
  obtain⟨cs,hV,b7⟩:=el (X.rdl 0 ha0 rfl) H
  obtain rfl:=hV
  refine aG uu4 (b7 0 _ rfl) J (fun U J=>?_) rfl
  refine x_v J (aYi uu4 rfl (J.ev rfl) (J.ev rfl)) rfl fun U J=>wn (b6 _ _ ?_)
  refine bA J G rfl (fun b8 G=>?_) fun b8 G=>?_
  ·refine nz 2 J rfl fun U J=>?_
   cases G
   refine wp_ret ?_
   have ht:=z _ rfl
   subst ht
   replace G:=a4
   replace G:some C=some y:=G
   cases G
   refine hQ _ _ (lv Tryz.results123 J rfl ?_)
   exact⟨rfl,X⟩
  refine wp_skip (b5 _ _ ?_)
  refine b4 _ _ (aC ?_)
  refine x_l G J rfl fun d0 _ U J G=>x_m J rfl fun U J=>wpList_nil ?_
  cases G
  exact⟨_,a8 _ rfl,J.sub _ rfl,X⟩
 cases G
 exact wp_exit (a5 (z _ rfl) U w (J.sub _ rfl) X)
theorem vR {a0 a1 A0 n0 c0 y} (G:fR a0 a1=some y) (X:SH r (L) w) (ha0:RdL L kB A0 n0 c0 a0) :
  Ret Tryz.prog 103 #[.slice A0 n0 c0,.bool a1] w fun v w'=>v=.bool y∧SH r (L) w':=by
 refine enter Tryz.func103 rfl Tryz.ntmps103 [(0,_),(1,_)] rfl (by simp) ?_
 intro U J Qf hQ hQn
 unfold fR at G
 refine nz 1 J rfl fun U J=>ws fun C h=>xk 2 J rfl fun U J=>?_
 obtain⟨H,z,G⟩:=bnd G
 refine x_c aYs J rfl (xU z X (RdL.sfx 0 rfl ha0) :) fun v U w hR J=>?_
 obtain⟨rfl,X⟩:=hR
 refine nk 2 J rfl fun U J=>?_
 cases G
 refine h _ _ (wp_ret ?_)
 refine hQ _ _ (lv Tryz.results103 J rfl ?_)
 exact⟨rfl,X⟩
theorem uQ {a0 a1 g0 g1 y} (G:iW a0 a1=some y) (X:SH r (obj157 Z wz g0 a0::obj37 g1 a1::L) w) (qz:Nat) (hZ:L[qz]?=some (zone Z wz)) :
  RetS Tryz.prog 102 #[.pointer (some ⟨g0,0,none⟩),(pP g1)] w aC3 y (fun y v w'=>v=.tuple #[]∧SH r (obj157 Z wz g0 y.1::obj37 g1 y.2::L) w') (fun y w'=>SH r (obj157 Z wz g0 y.1::obj37 g1 y.2::L) w'):=by
 refine xB Tryz.func102 rfl Tryz.ntmps102 [(0,_),(1,_)] rfl (by simp) ?_
 intro U J Qf hQ hQn hQp
 unfold iW at G
 obtain⟨r7,r8,r9,X⟩:=aM X
 obtain⟨k5,X⟩:=(X.pk 1).unpure
 obtain⟨I,S,Y,X⟩:=aFu (X.pk 1)
 refine nz 1 J rfl fun U J=>wp_seq_k fun s2 k6=>ws fun s3 k7=>xk 1 J rfl fun U J=>?_
 replace X:=bH (x:=a0) ((SH.pure_ k5 X).pk 3)
 refine pO G aQo J rfl (fun _ h=>jF h X (qz+2) hZ) (fun c7 w X G=>?_) fun c7 v U w hR J G=>?_
 ·replace X:=(qX (x:=a1) (X.pk 2 |>.pk 2)).pk 1
  cases G
  exact hQp _ rfl _ _ J.defers X
 obtain⟨rfl,X⟩:=hR
 obtain⟨k8,k9,l0,X⟩:=aM X
 obtain⟨l1,X⟩:=(X.pk 1).unpure
 refine x_m J rfl fun U J=>wn (k7 _ _ ?_)
 refine aA fun i8 l2=>?_
 have hb1:∀c8 z,lE a1 c8 z=some y→∀g6 g7 g8 a2 a3 a4 (i9:Imm Z wz (kI .u8) g6 g7 g8 c8) U w,FR 70 [] U [(0,(pP g0)),(1,(pP g1)),(3,.slice a2 a3 a4)]→SH r (blk g0 157 [.slice g6 g7 g8]::blk g1 37 [.slice I S Y]::own kS 9 I S Y a1::own kS 9 a2 a3 a4 z::L) w→i8 U w:=by
  intro c8 z G g6 g7 g8 a2 a3 a4 i9 U w J X
  unfold lE at G
  refine l2 _ _ (k6 _ _ ?_)
  refine ws fun s4 l3=>xk 1 J rfl fun U J=>aU lJ (X.rd 3 rfl).2.1 J (fun U J=>?_) rfl
  obtain⟨l4,G⟩:=aB G
  refine aE4 (d:=kB) (bytes:=1) false bCg rfl aNu l4 J X (fun a5 U w X J=>?_) rfl
  refine x_m J rfl fun U J=>wn (l3 _ _ ?_)
  refine wp_seq_k fun s5 l5=>ws fun s6 l6=>xk 1 J rfl fun U J=>?_
  replace X:=(SH.pure_ i9 X).pk 2
  replace X:=bH (x:=(⟨c8⟩:S157)) X
  refine pO G aWc J rfl (fun _ h=>aBj h X (qz+4) hZ) (fun b3 w X G=>?_) fun b3 v U w hR J G=>?_
  ·replace X:=(qX (x:=a1) (X.pk 3 |>.pk 3)).drop 2 |>.drop 2 |>.pk 1
   cases G
   exact hQp _ rfl _ _ J.defers X
  obtain⟨c9,d0,d1,rfl,X⟩:=hR
  obtain⟨l7,l8,l9,X⟩:=aM (X.pk 1)
  obtain⟨m0,X⟩:=(X.pk 1).unpure
  refine aU bN (X.rd 1 rfl).2.1 J (fun U J=>?_) rfl
  refine x_m J rfl fun U J=>wn (l6 _ _ ?_)
  refine aA fun j0 m1=>?_
  have hb2:∀d2 b7 g9,lF d2 b7 g9=some y→∀h0 h1 h2 h3 h4 h5 (j1:Imm Z wz (kI .u8) h0 h1 h2 d2) U w,FR 70 [] U [(0,(pP g0)),(1,(pP g1)),(5,.slice (some ⟨a5,0,none⟩) ((z.length:Int).toNat) ((z.length:Int).toNat))]→SH r (blk g0 157 [.slice h0 h1 h2]::blk g1 37 [.slice h3 h4 h5]::own kS 9 h3 h4 h5 b7::own kB 4 (some ⟨a5,0,none⟩) ((z.length:Int).toNat) ((z.length:Int).toNat) g9::L) w→j0 U w:=by
   intro d2 b7 g9 G h0 h1 h2 h3 h4 h5 j1 U w J X
   unfold lF at G
   refine m1 _ _ (l5 _ _ ?_)
   refine aC (xk 2 J rfl fun U J=>?_)
   obtain⟨s7,m2,G⟩:=bnd G
   refine x_c bBb J rfl (vR m2 X (RdL.own 3 rfl (X.dropN 0)) :) fun v U w hR J=>?_
   obtain⟨rfl,X⟩:=hR
   refine xk 1 J rfl fun U J=>?_
   replace X:=(SH.pure_ j1 X).pk 1
   replace X:=bH (x:=(⟨d2⟩:S157)) X
   refine pO G aAk J rfl (fun _ h=>aQ h X (qz+3) hZ) (fun m3 w X G=>?_) fun m3 v U w hR J G=>?_
   ·replace X:=(qX (x:=b7) (X.pk 2 |>.pk 2)).drop 2 |>.pk 1
    cases G
    exact hQp _ rfl _ _ J.defers X
   obtain⟨rfl,X⟩:=hR
   refine wpList_nil ?_
   replace X:=(qX (x:=b7) (X.pk 2 |>.pk 2)).drop 2 |>.pk 1
   cases G
   refine hQn _ rfl _ _ (aCo Tryz.results102 J ?_)
   exact⟨rfl,X⟩
  obtain⟨t171,m4,G⟩:=bnd G
  have j2:=G
  have m5:∀b8 b9 c0,(.inl (b8,b9,c0))=t171→∀d3 d4 d5 d6 d7 d8 (j3:Imm Z wz (kI .u8) d3 d4 d5 b8) U w,FR 70 [] U [(0,(pP g0)),(1,(pP g1)),(5,.slice (some ⟨a5,0,none⟩) ((z.length:Int).toNat) ((z.length:Int).toNat))]→SH r (blk g0 157 [.slice d3 d4 d5]::blk g1 37 [.slice d6 d7 d8]::own kS 9 d6 d7 d8 b9::own kB 4 (some ⟨a5,0,none⟩) ((z.length:Int).toNat) ((z.length:Int).toNat) c0::L) w→j0 U w:=by
   intro b8 b9 c0 ht d3 d4 d5 d6 d7 d8 j3 U w J X
   subst ht
   replace G:jL b8 b9 c0=some y:=G
   unfold jL at G
   exact hb2 b8 b9 c0 G d3 d4 d5 d6 d7 d8 j3 U w (J.sub _ rfl) X
  replace X:=X.pk 1 |>.pk 2 |>.pk 5 |>.pk 5 |>.pk 5 |>.pk 5
  refine aD m4 (fun s U w=>∃d9 e0 e1 a7 a8 a9,Imm Z wz (kI .u8) d9 e0 e1 s.1∧FR 70 [] U [(0,(pP g0)),(1,(pP g1)),(3,.slice a2 a3 a4),(5,.slice (some ⟨a5,0,none⟩) ((z.length:Int).toNat) ((z.length:Int).toNat)),(38,.slice c9 d0 d1),(39,.int .i64 (b3.1.length:Int)),(40,.int .i64 s.2.2.2)]∧SH r (blk g0 157 [.slice d9 e0 e1]::blk g1 37 [.slice a7 a8 a9]::own kS 9 a7 a8 a9 s.2.1::own kS 9 a2 a3 a4 z::own kB 4 (some ⟨a5,0,none⟩) ((z.length:Int).toNat) ((z.length:Int).toNat) s.2.2.1::own (kI .i64) 2 c9 d0 d1 b3.1::L) w) ⟨l7,l8,l9,I,S,Y,m0,J.sub _ rfl,X⟩ ?_
  intro s8 m6 j4 G m7 h6 U w hLab
  obtain⟨e2,a6,e3,h7⟩:=m6
  replace G:bZ z b3 e2 a6 e3 h7=some j4:=G
  unfold bZ at G
  try dsimp only at hLab
  obtain⟨d9,e0,e1,a7,a8,a9,h8,J,X⟩:=hLab
  refine nz 1 J rfl fun U J=>wp_seq_k fun s9 m8=>bA J G rfl (fun m9 G=>?_) fun m9 G=>?_
  ·refine wp_skip (m8 _ _ ?_)
   refine wp_seq_k fun t0 n0=>aA fun t1 n3=>ws fun t3 n4=>?_
   obtain⟨e4,j5,G⟩:=bnd G
   refine fG bN sz2 (X.rd 5 rfl) j5 J (fun U J=>?_) rfl
   obtain⟨cs,hV,n5⟩:=el (X.rd 5 rfl) j5
   obtain rfl:=hV
   refine aG uu2 (n5 0 _ rfl) J (fun U J=>?_) rfl
   refine x_m J rfl fun U J=>wn (n4 _ _ ?_)
   refine wp_seq_k fun n6 n7=>?_
   have hj1:∀h9,iQ z a6 e3 h7 e4 h9=some j4→∀e5 e6 e7 (j6:Imm Z wz (kI .u8) e5 e6 e7 h9) U w,FR 70 [] U [(0,(pP g0)),(1,(pP g1)),(3,.slice a2 a3 a4),(5,.slice (some ⟨a5,0,none⟩) ((z.length:Int).toNat) ((z.length:Int).toNat)),(7,.int .i64 e4),(38,.slice c9 d0 d1),(39,.int .i64 (b3.1.length:Int)),(40,.int .i64 h7)]→SH r (blk g0 157 [.slice e5 e6 e7]::blk g1 37 [.slice a7 a8 a9]::own kS 9 a7 a8 a9 a6::own kS 9 a2 a3 a4 z::own kB 4 (some ⟨a5,0,none⟩) ((z.length:Int).toNat) ((z.length:Int).toNat) e3::own (kI .i64) 2 c9 d0 d1 b3.1::L) w→n6 U w:=by
    intro h9 G e5 e6 e7 j6 U w J X
    unfold iQ at G
    refine n7 _ _ (ws fun t4 n8=>?_)
    refine xk 2 J rfl fun U J=>?_
    obtain⟨t5,j7,G⟩:=bnd G
    refine fG aNu sz4 (X.rd 4 rfl) j7 J (fun U J=>?_) rfl
    refine aGj (z':=true) (off:=0) (vs:=[.bool true]) 4 sz4 J X rfl (dR j7).2.2 (fun c h=>by cases h; rfl) (fun  U w X J=>?_) rfl rfl rfl rfl rfl rfl rfl rfl
    refine wn (n8 _ _ ?_)
    refine cO [0,0,0,6,14,30,63,127] [5,6,7] rfl J X (by kernel_rfl) (by kernel_rfl) (by kernel_rfl) (by kernel_rfl) fun w X=>?_
    obtain⟨c3,j8,G⟩:=bnd G
    obtain⟨cs,hV,n9⟩:=el (X.rd 4 rfl) j8
    obtain rfl:=hV
    refine⟨[(0,.slice a7 a8 a9),(1,.slice a2 a3 a4),(2,.int .i64 e4),(3,.pointer (some (ea a2 (e4.toNat * 1)))),(4,str c3)],?_⟩
    refine dF [0,1,2,3,4] [5] (by kernel_rfl) ⟨pt [(1,_)] rfl (fun U J=>cL lJ (X.cell 2 rfl 0 _ rfl) J rfl rfl rfl),pm rfl,pm rfl,pt [(58,_),(59,_)] rfl (fun U J=>fH lJ sz9 (X.rd 4 rfl) j8 J rfl rfl rfl),pt [(60,_)] rfl (fun U J=>cL uu9 (n9 0 _ rfl) J rfl rfl rfl),trivial⟩ ⟨et [(61,_)] rfl (fun U J K hK=>?_),trivial⟩
    refine gJ (d:=kS) (e:=9) (ps:=#[(0,str c3)]) (cells:=[str c3]) (xs:=[c3]) (fun w=>by kernel_rfl) rfl ⟨[str c3],_,rfl,rfl,rfl⟩ J X (fun t6 w X=>?_) rfl
    refine hK _ [] _ rfl (dF [0] [6] (by kernel_rfl) ⟨pt [(1,_)] rfl (fun U J=>cL lJ (X.cell 3 rfl 0 _ rfl) J rfl rfl rfl),trivial⟩ ⟨et [(57,_),(62,_)] rfl (fun U J K hK=>?_),trivial⟩)
    obtain⟨o0,G⟩:=aB G
    have hr:=X.rd 0 rfl
    refine cP 4 aLt lJ J X hr.1 hr.2.1 o0 rfl (fun o1 o2 o3 w X=>?_) rfl
    refine hK _ [] _ rfl (dF [] [7] (by kernel_rfl) trivial ⟨et [(1,_),(63,_)] rfl (fun U J K hK=>?_),trivial⟩)
    refine aMd 4 aS2 J X rfl (fun  w X=>?_) rfl
    refine hK _ [] _ rfl (gN [] (by kernel_rfl) trivial ⟨by kernel_rfl,by kernel_rfl⟩ [(0,_),(1,_),(3,_),(5,_),(38,_),(39,_),(40,_)] rfl (fun U J=>?_))
    refine n3 _ _ (n0 _ _ ?_)
    refine aC (x_l G J rfl fun t7 _ U J G=>?_)
    refine x_m J rfl fun U J=>wpList_nil ?_
    replace X:=X.drop 2 |>.pk 5 |>.pk 3 |>.pk 5 |>.pk 4 |>.pk 4 |>.pk 5
    cases G
    exact⟨_,m7 _ rfl,e5,e6,e7,o1,o2,o3,j6,J.sub _ rfl,X⟩
   refine aC (xk 4 J rfl fun U J=>?_)
   refine bcG G (fun c4 G=>?_) fun c4 G=>?_
   ·refine xg 2 c4 J rfl rfl fun U J=>aJ c4 J ?_ rfl
    refine aU lJ (X.rd 3 rfl).2.1 J (fun U J=>?_) rfl
    refine xg 2 c4 J rfl rfl fun U J=>?_
    replace X:=(SH.pure_ h8 X).pk 1
    replace X:=bH (x:=(⟨e2⟩:S157)) X
    refine pO G aAk J rfl (fun _ h=>aQ h X (qz+5) hZ) (fun i0 w X G=>?_) fun i0 v U w hR J G=>?_
    ·replace X:=(qX (x:=a6) (X.pk 2 |>.pk 2)).drop 2 |>.drop 2 |>.drop 2 |>.pk 1
     cases G
     have ht:=h6 _ rfl
     subst ht
     replace G:=j2
     replace G:some (.inr (i0,a6))=some y:=G
     cases G
     exact hQp _ rfl _ _ J.defers X
    obtain⟨rfl,X⟩:=hR
    obtain⟨o4,o5,o6,X⟩:=aM X
    obtain⟨o7,X⟩:=(X.pk 1).unpure
    exact wpList_nil (hj1 i0.f0 G o4 o5 o6 o7 U w (J.sub _ rfl) X)
   refine xg 5 c4 J rfl rfl fun U J=>?_
   replace X:=(SH.pure_ h8 X).pk 1
   replace X:=bH (x:=(⟨e2⟩:S157)) X
   refine pO G aAk J rfl (fun _ h=>aQ h X (qz+5) hZ) (fun i1 w X G=>?_) fun i1 v U w hR J G=>?_
   ·replace X:=(qX (x:=a6) (X.pk 2 |>.pk 2)).drop 2 |>.drop 2 |>.drop 2 |>.pk 1
    cases G
    have ht:=h6 _ rfl
    subst ht
    replace G:=j2
    replace G:some (.inr (i1,a6))=some y:=G
    cases G
    exact hQp _ rfl _ _ J.defers X
   obtain⟨rfl,X⟩:=hR
   obtain⟨o8,o9,p0,X⟩:=aM X
   obtain⟨p1,X⟩:=(X.pk 1).unpure
   exact wpList_nil (hj1 i1.f0 G o8 o9 p0 p1 U w (J.sub _ rfl) X)
  replace X:=X.drop 3 |>.drop 4
  cases G
  exact wp_exit (m5 e2 a6 e3 (h6 _ rfl) d9 e0 e1 a7 a8 a9 h8 U w (J.sub _ rfl) X)
 obtain⟨p2,p3,G⟩:=bnd G
 have i2:=G
 have p4:∀c5 c6,(.inl (c5,c6))=p2→∀e8 e9 f2 f3 f4 f5 (j9:Imm Z wz (kI .u8) e8 e9 f2 c5) U w,FR 70 [] U [(0,(pP g0)),(1,(pP g1)),(3,.slice f3 f4 f5)]→SH r (blk g0 157 [.slice e8 e9 f2]::blk g1 37 [.slice I S Y]::own kS 9 I S Y a1::own kS 9 f3 f4 f5 c6::L) w→i8 U w:=by
  intro c5 c6 ht e8 e9 f2 f3 f4 f5 j9 U w J X
  subst ht
  replace G:jJ a1 c5 c6=some y:=G
  unfold jJ at G
  exact hb1 c5 c6 G e8 e9 f2 f3 f4 f5 j9 U w (J.sub _ rfl) X
 replace X:=(SH.nil_own (d:=kS) (e:=9) X).pk 3 |>.pk 3 |>.pk 3
 refine aD p3 (fun s U w=>∃f6 f7 f8 b4 b5 b6,Imm Z wz (kI .u8) f6 f7 f8 s.1∧FR 70 [] U [(0,(pP g0)),(1,(pP g1)),(3,.slice b4 b5 b6),(9,.int .u64 c7.1),(10,.int .u64 s.2.2)]∧SH r (blk g0 157 [.slice f6 f7 f8]::blk g1 37 [.slice I S Y]::own kS 9 I S Y a1::own kS 9 b4 b5 b6 s.2.1::L) w) ⟨k8,k9,l0,none,0,0,l1,J.sub _ rfl,X⟩ ?_
 intro t8 p5 k0 G p6 f9 U w hLab
 obtain⟨i3,g2,i4⟩:=p5
 replace G:cI a1 c7 i3 g2 i4=some k0:=G
 unfold cI at G
 try dsimp only at hLab
 obtain⟨f6,f7,f8,b4,b5,b6,k1,J,X⟩:=hLab
 refine nz 1 J rfl fun U J=>wp_seq_k fun t9 p7=>bA J G rfl (fun p8 G=>?_) fun p8 G=>?_
 ·refine wp_skip (p7 _ _ ?_)
  refine wp_seq_k fun u0 p9=>aA fun u1 q0=>ws fun u2 q1=>xk 1 J rfl fun U J=>?_
  replace X:=(SH.pure_ k1 X).pk 1
  replace X:=bH (x:=(⟨i3⟩:S157)) X
  refine pO G bA4 J rfl (fun _ h=>uN h X (qz+3) hZ) (fun C w X G=>?_) fun C v U w hR J G=>?_
  ·replace X:=(qX (x:=a1) (X.pk 2 |>.pk 2)).drop 2 |>.pk 1
   cases G
   have ht:=f9 _ rfl
   subst ht
   replace G:=i2
   replace G:some (.inr (C,a1))=some y:=G
   cases G
   exact hQp _ rfl _ _ J.defers X
  obtain⟨rfl,X⟩:=hR
  obtain⟨u3,u4,u5,X⟩:=aM X
  obtain⟨k2,X⟩:=(X.pk 1).unpure
  refine x_m J rfl fun U J=>wn (q1 _ _ ?_)
  refine wp_seq_k fun q2 q3=>?_
  have hj2:∀i5,fX g2 i4 C i5=some k0→∀g3 g4 g5 (k3:Imm Z wz (kI .u8) g3 g4 g5 i5) U w,FR 70 [] U [(0,(pP g0)),(1,(pP g1)),(3,.slice b4 b5 b6),(4,str C.1),(9,.int .u64 c7.1),(10,.int .u64 i4)]→SH r (blk g0 157 [.slice g3 g4 g5]::blk g1 37 [.slice I S Y]::own kS 9 I S Y a1::own kS 9 b4 b5 b6 g2::L) w→q2 U w:=by
   intro i5 G g3 g4 g5 k3 U w J X
   unfold fX at G
   refine q3 _ _ (aC ?_)
   refine xk 2 J rfl fun U J=>gW (d:=kS) (e:=9) (ps:=#[(0,str C.1)]) (cells:=[str C.1]) (xs:=[C.1]) (fun w=>by kernel_rfl) rfl ⟨[str C.1],_,rfl,rfl,rfl⟩ J X (fun u6 U w X J=>?_) rfl
   obtain⟨q4,G⟩:=aB G
   have hr:=X.rd 0 rfl
   refine gK 4 aLt lJ J X hr.1 hr.2.1 q4 rfl (fun q5 q6 q7 U w X J=>?_) rfl
   refine x_m J rfl fun U J=>wpList_nil (q0 _ _ ?_)
   refine p9 _ _ (aC ?_)
   refine x_l G J rfl fun u7 _ U J G=>x_m J rfl fun U J=>wpList_nil ?_
   replace X:=X.drop 1 |>.pk 3 |>.pk 3 |>.pk 3
   cases G
   exact⟨_,p6 _ rfl,g3,g4,g5,q5,q6,q7,k3,J.sub _ rfl,X⟩
  refine aC (xk 2 J rfl fun U J=>?_)
  refine aU lJ (X.rd 3 rfl).2.1 J (fun U J=>?_) rfl
  refine xk 2 J rfl fun U J=>bcG G (fun H G=>?_) fun H G=>?_
  ·refine xg 9 H J rfl rfl fun U J=>?_
   replace X:=bH (x:=C.2) ((SH.pure_ k2 X).pk 1)
   refine pO G aAk J rfl (fun _ h=>aQ h X (qz+3) hZ) (fun i6 w X G=>?_) fun i6 v U w hR J G=>?_
   ·replace X:=(qX (x:=a1) (X.pk 2 |>.pk 2)).drop 2 |>.pk 1
    cases G
    have ht:=f9 _ rfl
    subst ht
    replace G:=i2
    replace G:some (.inr (i6,a1))=some y:=G
    cases G
    exact hQp _ rfl _ _ J.defers X
   obtain⟨rfl,X⟩:=hR
   obtain⟨q8,q9,r0,X⟩:=aM X
   obtain⟨r1,X⟩:=(X.pk 1).unpure
   exact wpList_nil (hj2 i6.f0 G q8 q9 r0 r1 U w (J.sub _ rfl) X)
  refine xg 2 H J rfl rfl fun U J=>aJ H J ?_ rfl
  refine aU lJ (X.rd 3 rfl).2.1 J (fun U J=>?_) rfl
  refine aJ H J ?_ rfl
  refine x_l G J rfl fun u9 _ U J G=>aJ H J ?_ rfl
  obtain⟨v0,k4,G⟩:=bnd G
  refine fG lJ sz9 (X.rd 3 rfl) k4 J (fun U J=>?_) rfl
  refine aJ H J ?_ rfl
  obtain⟨cs,hV,r2⟩:=el (X.rd 3 rfl) k4
  obtain rfl:=hV
  refine aG uu9 (r2 0 _ rfl) J (fun U J=>?_) rfl
  refine xg 1 H J rfl rfl fun U J=>aJ H J ?_ rfl
  refine x_v J (aHw rfl (J.ev rfl) (J.ev rfl)) rfl fun U J=>xg 1 H J rfl rfl fun U J=>?_
  replace X:=bH (x:=C.2) ((SH.pure_ k2 X).pk 1)
  refine pO G aAk J rfl (fun _ h=>aQ h X (qz+3) hZ) (fun i7 w X G=>?_) fun i7 v U w hR J G=>?_
  ·replace X:=(qX (x:=a1) (X.pk 2 |>.pk 2)).drop 2 |>.pk 1
   cases G
   have ht:=f9 _ rfl
   subst ht
   replace G:=i2
   replace G:some (.inr (i7,a1))=some y:=G
   cases G
   exact hQp _ rfl _ _ J.defers X
  obtain⟨rfl,X⟩:=hR
  obtain⟨r3,r4,r5,X⟩:=aM X
  obtain⟨r6,X⟩:=(X.pk 1).unpure
  exact wpList_nil (hj2 i7.f0 G r3 r4 r5 r6 U w (J.sub _ rfl) X)
 cases G
 exact wp_exit (p4 i3 g2 (f9 _ rfl) f6 f7 f8 b4 b5 b6 k1 U w (J.sub _ rfl) X)
theorem xS {a0 C A0 n0 c0 z y} (G:nS a0 C=some y) (X:SH r (obj37 z C::L) w) (qz:Nat) (hZ:L[qz]?=some (zone Z wz)) (ha0:Imm Z wz (kI .u8) A0 n0 c0 a0) :
  Ret Tryz.prog 75 #[.slice A0 n0 c0,.func (.func 102) #[] #[.pointer (some ⟨z,0,none⟩)]] w fun v w'=>v=.bool y.1∧SH r (obj37 z y.2::L) w':=by
 obtain⟨y',hy,G⟩:=bnd G
 refine Ret.mono_ (aFi (R:=fun v w'=>v=.bool y.1∧SH r (obj37 z y.2::L) w') aYj X (fun g g4 w1 hS1=>?_)) (fun v w' h=>h)
 replace hS1:=bH (x:=⟨a0⟩) (hS1.pk 1 |> fun h=>(SH.pure_ ha0 (h.pk 1)).pk 1)
 replace hS1:=hS1.pk 1
 replace hS1:=hS1.pk 2
 replace hS1:=hS1.pk 2
 rcases y' with y' | y'
 ·replace G:=aSs G
  cases G
  left
  refine Ret.mono_ (RetS.lf (uQ hy hS1 (qz+1) hZ :)) ?_
  rintro v w2 ⟨rfl,X⟩
  replace X:=X.pk 2 |>.pk 1
  obtain⟨A',n',c',X⟩:=aM X
  have hQ:=SH.unpure (X.pk 1)
  clear X
  obtain⟨hi,X⟩:=hQ
  refine⟨_,A',n',c',X,fun w3 h3=>⟨?_,h3⟩⟩
  rw [← hi.ln]
 ·replace G:=aRv G
  cases G
  right
  refine Calls.mono (RetS.rf (uQ hy hS1 (qz+1) hZ :)) ?_
  rintro e w2 ⟨rfl,X⟩
  replace X:=X.pk 2 |>.drop 1
  exact⟨rfl,_,X,fun w3 h3=>⟨rfl,h3⟩⟩
theorem aB1 {a0 A0 n0 c0 y} (G:nH a0=some y) (X:SH r (L) w) (qz:Nat) (hZ:L[qz]?=some (zone Z wz)) (ha0:Imm Z wz (kI .u8) A0 n0 c0 a0) :
  Ret Tryz.prog 79 #[.slice A0 n0 c0] w fun v w'=>∃ (B0:Option Addr) (m0:Nat) (d0:Nat),v=.tuple #[(.slice B0 m0 d0),(.int .i64 y.2)]∧SH r (own kS 9 B0 m0 d0 y.1::L) w':=by
 refine enter Tryz.func79 rfl Tryz.ntmps79 [(0,_)] rfl (by simp) ?_
 intro U J Qf hQ hQn
 unfold nH at G
 refine nz 2 J rfl fun U J=>ws fun a4 h=>gP (cs:=[.slice none 0 0]) aYb J X (fun z U w X J=>?_) rfl
 refine wn (h _ _ ?_)
 refine ws fun a5 C=>xk 1 J rfl fun U J=>x_v J (mN rfl (rX (vals:=#[]) J rfl) (rX (vals:=#[.pointer (some ⟨z,0,none⟩)]) J rfl)) rfl fun U J=>?_
 replace X:=qX (x:=[]) ((SH.nil_own (d:=kS) (e:=9) X).pk 1)
 obtain⟨a6,H,G⟩:=bnd G
 refine x_c aW7 J rfl (xS H X (qz+0) hZ ha0 :) fun v U w hR J=>?_
 obtain⟨rfl,X⟩:=hR
 obtain⟨I,S,Y,X⟩:=aFu X
 refine x_m J rfl fun U J=>wn (C _ _ ?_)
 refine wp_seq_k fun a7 a1=>nz 2 J rfl fun U J=>bA J G rfl (fun a2 G=>?_) fun a2 G=>?_
 ·refine nz 2 J rfl fun U J=>?_
  replace X:=(SH.nil_own (d:=kS) (e:=9) X).drop 1 |>.drop 1
  cases G
  refine wp_ret (hQ _ _ ?_)
  exact lv2 Tryz.results79 J rfl rfl ⟨none,0,0,rfl,X⟩
 refine wp_skip (a1 _ _ ?_)
 refine ws fun a8 a3=>aG lJ (X.cell 0 rfl 0 _ rfl) J (fun U J=>?_) rfl
 refine nk 2 J rfl fun U J=>?_
 replace X:=X.drop 0
 cases G
 refine a3 _ _ (wp_ret ?_)
 refine hQ _ _ (lv2 Tryz.results79 J rfl rfl ?_)
 exact⟨I,S,Y,rfl,X⟩
end
end Go.Proofs.YtnefioccdkmegaaGreatDoor.M
namespace Go.Proofs
open Go.RowKit Go.Maps Go.Sort Go.Shelf
def Tryz.sortL_ren:Go.Shelf.Ren:=⟨fun | 190=>113 | 125=>133 | 258=>132 | 128=>147 | 129=>126 | 302=>139 | 303=>140 | 304=>141 | 305=>142 | 306=>143 | 307=>144 | 308=>115 | 309=>145 | 310=>146 | 333=>148 | 329=>149 | 330=>150 | 334=>151 | 335=>152 | 336=>134 | 344=>153 | n=>n,fun | 31=>37 | 9=>9 | 3=>3 | 46=>93 | 0=>0 | 51=>146 | 53=>44 | 4=>4 | 183=>193 | 182=>192 | 131=>60 | 5=>5 | 218=>200 | 222=>204 | 228=>206 | 229=>207 | n=>n,fun | n=>n⟩
theorem Tryz.sortL:Go.Proofs.Lays.n190 Tryz.prog Tryz.sortL_ren:={
 mixed:=by kernel_rfl
 f125:=Tryz.func133.trans (congrArg some (by kernel_rfl))
 f128:=Tryz.func147.trans (congrArg some (by kernel_rfl))
 f129:=Tryz.func126.trans (congrArg some (by kernel_rfl))
 f190:=Tryz.func113.trans (congrArg some (by kernel_rfl))
 f258:=Tryz.func132.trans (congrArg some (by kernel_rfl))
 f302:=Tryz.func139.trans (congrArg some (by kernel_rfl))
 f303:=Tryz.func140.trans (congrArg some (by kernel_rfl))
 f304:=Tryz.func141.trans (congrArg some (by kernel_rfl))
 f305:=Tryz.func142.trans (congrArg some (by kernel_rfl))
 f306:=Tryz.func143.trans (congrArg some (by kernel_rfl))
 f307:=Tryz.func144.trans (congrArg some (by kernel_rfl))
 f308:=Tryz.func115.trans (congrArg some (by kernel_rfl))
 f309:=Tryz.func145.trans (congrArg some (by kernel_rfl))
 f310:=Tryz.func146.trans (congrArg some (by kernel_rfl))
 f329:=Tryz.func149.trans (congrArg some (by kernel_rfl))
 f330:=Tryz.func150.trans (congrArg some (by kernel_rfl))
 f333:=Tryz.func148.trans (congrArg some (by kernel_rfl))
 f334:=Tryz.func151.trans (congrArg some (by kernel_rfl))
 f335:=Tryz.func152.trans (congrArg some (by kernel_rfl))
 f336:=Tryz.func134.trans (congrArg some (by kernel_rfl))
 f344:=Tryz.func153.trans (congrArg some (by kernel_rfl))
 t0:=Tryz.underlying0
 a0:=Tryz.isAgg0
 z0:=Tryz.sizeOf0
 v0:=Tryz.zeroValue0
 t3:=Tryz.underlying3
 a3:=Tryz.isAgg3
 z3:=Tryz.sizeOf3
 v3:=Tryz.zeroValue3
 t4:=Tryz.underlying4
 a4:=Tryz.isAgg4
 z4:=Tryz.sizeOf4
 v4:=Tryz.zeroValue4
 t5:=Tryz.underlying5
 a5:=Tryz.isAgg5
 z5:=Tryz.sizeOf5
 v5:=Tryz.zeroValue5
 t9:=Tryz.underlying9
 a9:=Tryz.isAgg9
 z9:=Tryz.sizeOf9
 v9:=Tryz.zeroValue9
 t31:=Tryz.underlying37
 a31:=Tryz.isAgg37
 z31:=Tryz.sizeOf37
 v31:=Tryz.zeroValue37
 t46:=Tryz.underlying93
 a46:=Tryz.isAgg93
 z46:=Tryz.sizeOf93
 v46:=Tryz.zeroValue93
 t51:=Tryz.underlying146
 a51:=Tryz.isAgg146
 z51:=Tryz.sizeOf146
 v51:=Tryz.zeroValue146
 t53:=Tryz.underlying44
 a53:=Tryz.isAgg44
 z53:=Tryz.sizeOf44
 v53:=Tryz.zeroValue44
 t131:=Tryz.underlying60
 a131:=Tryz.isAgg60
 z131:=Tryz.sizeOf60
 v131:=Tryz.zeroValue60
 t182:=Tryz.underlying192
 a182:=Tryz.isAgg192
 z182:=Tryz.sizeOf192
 v182:=Tryz.zeroValue192
 t183:=Tryz.underlying193
 a183:=Tryz.isAgg193
 z183:=Tryz.sizeOf193
 v183:=Tryz.zeroValue193
 t218:=Tryz.underlying200
 a218:=Tryz.isAgg200
 z218:=Tryz.sizeOf200
 v218:=Tryz.zeroValue200
 t222:=Tryz.underlying204
 a222:=Tryz.isAgg204
 z222:=Tryz.sizeOf204
 v222:=Tryz.zeroValue204
 t228:=Tryz.underlying206
 a228:=Tryz.isAgg206
 z228:=Tryz.sizeOf206
 v228:=Tryz.zeroValue206
 t229:=Tryz.underlying207
 a229:=Tryz.isAgg207
 z229:=Tryz.sizeOf207
 v229:=Tryz.zeroValue207 }
def Tryz.compactL_ren:Go.Shelf.Ren:=⟨fun | 194=>85 | n=>n,fun | 31=>37 | 9=>9 | 3=>3 | 4=>4 | 0=>0 | n=>n,fun | n=>n⟩
theorem Tryz.compactL:Go.Proofs.Lays.n194 Tryz.prog Tryz.compactL_ren:={
 mixed:=by kernel_rfl
 f194:=Tryz.func85.trans (congrArg some (by kernel_rfl))
 t0:=Tryz.underlying0
 a0:=Tryz.isAgg0
 z0:=Tryz.sizeOf0
 v0:=Tryz.zeroValue0
 t3:=Tryz.underlying3
 a3:=Tryz.isAgg3
 z3:=Tryz.sizeOf3
 v3:=Tryz.zeroValue3
 t4:=Tryz.underlying4
 a4:=Tryz.isAgg4
 z4:=Tryz.sizeOf4
 v4:=Tryz.zeroValue4
 t9:=Tryz.underlying9
 a9:=Tryz.isAgg9
 z9:=Tryz.sizeOf9
 v9:=Tryz.zeroValue9
 t31:=Tryz.underlying37
 a31:=Tryz.isAgg37
 z31:=Tryz.sizeOf37
 v31:=Tryz.zeroValue37 }
def Tryz.sortedL_ren:Go.Shelf.Ren:=⟨fun | 6=>86 | 8=>112 | 9=>113 | 11=>131 | 13=>133 | 12=>132 | 23=>147 | 24=>126 | 14=>139 | 15=>140 | 16=>141 | 17=>142 | 18=>143 | 19=>144 | 20=>115 | 21=>145 | 22=>146 | 25=>148 | 26=>149 | 27=>150 | 28=>151 | 29=>152 | 30=>134 | 31=>153 | n=>n,fun | 26=>9 | 28=>141 | 24=>37 | 0=>0 | 3=>3 | 37=>93 | 48=>146 | 50=>44 | 4=>4 | 40=>193 | 39=>192 | 45=>60 | 5=>5 | 9=>9 | 51=>200 | 55=>204 | 57=>206 | 58=>207 | 33=>73 | n=>n,fun | n=>n⟩
theorem Tryz.sortedL:Go.Proofs.SlLaysZ.n6 Tryz.prog Tryz.sortedL_ren:={
 mixed:=by kernel_rfl
 f6 := ⟨ "slices.Sorted[string]", by decide, Tryz.func86.trans (congrArg some (by kernel_rfl))⟩
 f8 := ⟨ "slices.Collect[string]", by decide, Tryz.func112.trans (congrArg some (by kernel_rfl))⟩
 f11 := ⟨ "slices.AppendSeq[[]string,string]", by decide, Tryz.func131.trans (congrArg some (by kernel_rfl))⟩
 t0:=Tryz.underlying0
 a0:=Tryz.isAgg0
 z0:=Tryz.sizeOf0
 v0:=Tryz.zeroValue0
 t24:=Tryz.underlying37
 a24:=Tryz.isAgg37
 z24:=Tryz.sizeOf37
 v24:=Tryz.zeroValue37
 t26:=Tryz.underlying9
 a26:=Tryz.isAgg9
 z26:=Tryz.sizeOf9
 v26:=Tryz.zeroValue9
 t28:=Tryz.underlying141
 a28:=Tryz.isAgg141
 z28:=Tryz.sizeOf141
 v28:=Tryz.zeroValue141
 i26:=by kernel_rfl }
set_option maxRecDepth 100000 in
set_option maxHeartbeats 2000000 in
theorem aJr (n:Nat) (hn:1≤n) (l Bx B:Nat) (W0:World) (A:Option Addr) (c:Nat) (xs:List (List UInt8)) (hl:xs.length≤4611686018427387904) (J:List (List UInt8)→World→Prop)
  (hJB:∀ ss W1,J ss W1→Below B W0 W1) (hBx:Bx<B) (hbox:W0.cell? ⟨Bx,0,none⟩=some (.slice A xs.length c))
  (hrow:0<xs.length→∃ b off,A=some ⟨b,off,none⟩∧b<B∧∀ j x,xs[j]?=some x→W0.cell? ⟨b,off+j,none⟩=some (encStr x))
  (hY:∀ pre x W1,J pre W1→pre.length<xs.length→YieldAt Fence.wide (n - 1) Tryz.prog l #[encStr x] W1 fun e W'=>e=.returned (.bool true)∧J (pre++[x]) W'∧KeepsWalks W1 W')
  (W:World) (h0:J [] W) :
  CallsIn Fence.wide n Tryz.prog 114 #[.func (.yield l) #[] #[],.pointer (some ⟨Bx,0,none⟩)] W fun e W'=>(∃ v,e=.returned v)∧J xs W':=by
 have hb1:=(hJB _ _ h0)
 have hx0:W.cell? ⟨Bx,0,none⟩=some (.slice A xs.length c):=(hb1.cell (p:=⟨Bx,0,none⟩) hBx).trans hbox
 refine callsIn_of_wp Tryz.func114 rfl trivial ?_ rfl
 simp only [Tryz.ntmps114,List.size_toArray,List.length_cons,List.length_nil,Nat.reduceAdd,Nat.reduceSub,Array.replicate_succ,Array.replicate_zero,List.push_toArray,List.append_toArray,List.nil_append,List.cons_append]
 gi_wp2
 gi_loopw [7] (fun s7 wr=>∃ k:Nat,s7=.int .i64 k∧k≤xs.length∧J (xs.take k) wr) (fun s7 _=>match s7 with | .int .i64 k=>(xs.length:Int).toNat - k.toNat | _=>0)
 case atStart=>exact⟨0,rfl,Nat.zero_le _,by simpa using h0⟩
 case round =>
  obtain⟨k,rfl,hk,hJk⟩:=hrel
  by_cases hlt:k<xs.length
  ·obtain⟨b,off,rfl,hb,hcell⟩:=hrow (by omega)
   have hx:=List.getElem?_eq_getElem hlt
   have hc:=((hJB _ _ hJk).cell (p:=⟨b,off+k,none⟩) hb).trans (hcell k _ hx)
   obtain⟨x,hxx⟩:∃ x,x=xs[k]:=⟨_,rfl⟩
   rw [← hxx] at hc hx
   have hkl:(xs.take k).length=k:=by simp; omega
   obtain⟨fn,tmps,assign,body,hy,hR⟩:=hY (xs.take k) x wr hJk (by omega)
   clear hrow hcell hxx
   gi_wp2
   refine hR.mono ?_
   rintro e W3 ⟨rfl,hJ3,hk3⟩
   gi_wp2
   go_roundw
   case rel=>exact⟨k+1,by simp,by omega,by rw [List.take_add_one,hx]; exact hJ3⟩
   case measure=>simp; omega
  ·have:k=xs.length:=by omega
   subst this
   gi_wp2
   go_end0
   exact⟨⟨_,rfl⟩,by simpa using hJk⟩
set_option maxRecDepth 100000 in
set_option maxHeartbeats 2000000 in
theorem aDh (Bx:Nat) (w:World) (A:Option Addr) (c:Nat) (xs:List (List UInt8)) (hl:xs.length * 16≤140737488355328) (hBx:Bx<w.heap.size) (hbox:w.cell? ⟨Bx,0,none⟩=some (.slice A xs.length c))
  (hrow:0<xs.length→∃ b off,A=some ⟨b,off,none⟩∧b<w.heap.size∧∀ j x,xs[j]?=some x→w.cell? ⟨b,off+j,none⟩=some (encStr x)) :
  Calls Tryz.prog 131 #[.slice none 0 0,.func (.func 114) #[] #[.pointer (some ⟨Bx,0,none⟩)]] w fun e w'=>∃ v,e=.returned v∧w'.ownsRow w.heap.size 9 1 v xs.length (xs.map encStr)∧(v=.slice none 0 0↔xs=[])∧Below w.heap.size w w':=by
 refine (callsIn_wide (n:=5)).1 ?_
 obtain⟨sv,hsv⟩:∃ sv:Value,sv=.func (.func 114) #[] #[.pointer (some ⟨Bx,0,none⟩)]:=⟨_,rfl⟩
 have hsv':=hsv
 refine callsIn_of_wp_marks Tryz.func131 rfl trivial ?_ rfl
 simp only [Tryz.ntmps131,List.size_toArray,List.length_cons,List.length_nil,Nat.reduceAdd,Nat.reduceSub,Array.replicate_succ,Array.replicate_zero,List.push_toArray,List.append_toArray,List.nil_append,List.cons_append]
 gi_wp2
 refine wpIn_rangeFunc ?_
 intro fn hfn
 rw [show Fence.wide.round=none from rfl]
 let ρ:=Tryz.sortedL_ren
 obtain⟨W0,hW0⟩:∃ W0,w.alloc (.cells #[.slice none 0 0] 37)=W0:=⟨_,rfl⟩
 have hs0:W0.heap.size=w.heap.size+1:=by rw [← hW0]; simp
 have hv0:W0.heap[w.heap.size]?=some (.cells #[.slice none 0 0] 37 (0,0)):=by rw [← hW0]; exact World.alloc_heap_new w _
 have hb0:Below w.heap.size w W0:=by rw [← hW0]; exact (Below.refl _ w).alloc (Nat.le_refl _) _
 rw [hW0]
 obtain⟨W1,hW1⟩:∃ W1,(W0.alloc (.deferred (some []))).alloc (.loop (AnyZ.apRec ρ fn sv w.heap.size W0.heap.size .ready none))=W1:=⟨_,rfl⟩
 have hold:∀ k,k<W0.heap.size→W1.heap[k]?=W0.heap[k]?:=fun k hk=>by
  rw [← hW1]; exact (Below.heap_alloc _ _ k (by simp; omega)).trans (Below.heap_alloc _ _ k hk)
 have hb1:Below w.heap.size w W1:=by rw [← hW1]; exact (hb0.alloc hb0.size _).alloc (by have:=hb0.size; simp; omega) _
 have hM:AnyZ.ApAt ρ w fn sv w.heap.size (W0.heap.size+1) W0.heap.size [] W1 :=
  ⟨⟨_,(hold w.heap.size (by omega)).trans hv0,⟨rfl,.inl ⟨rfl,rfl⟩⟩,by simp⟩,
   by rw [← hW1]; have:=World.alloc_heap_new (W0.alloc (.deferred (some []))) (.loop (AnyZ.apRec ρ fn sv w.heap.size W0.heap.size .ready none)); rwa [World.size_alloc] at this,
   by rw [← hW1]; exact (Below.heap_alloc _ _ _ (by simp)).trans (World.alloc_heap_new W0 _),hb1⟩
 refine⟨W0.heap.size+1,[{ target:=.collected W0.heap.size,args:=#[] }],W1,{ target:=.fn (.func 114) #[.pointer (some ⟨Bx,0,none⟩)],args:=#[.func (.yield (W0.heap.size+1)) #[] #[]] },W1,114,
  #[.func (.yield (W0.heap.size+1)) #[] #[]]++#[.pointer (some ⟨Bx,0,none⟩)],W1,?_,?_,?_,?_,fun _=>by omega,?_⟩
 ·rw [← hW1,hsv]; exact run_enterLoop_outer _ _ _ _ _
 ·simp [resolve,go_sem]
 ·intro f' hf'; trivial
 ·simp [invoke,go_sem]
 ·have hcur:=AnyZ.apYield (ρ:=ρ) (P:=Tryz.prog) { Tryz.sortedL with } Fence.wide 3 w fn hfn sv w.heap.size (W0.heap.size+1) W0.heap.size (by omega) (by omega) (by omega) (Nat.le_refl _) (by omega) xs.length (by unfold maxLen; omega) hl
  refine (aJr 4 (by omega) (W0.heap.size+1) Bx w.heap.size w A c xs (by omega) (AnyZ.ApAt ρ w fn sv w.heap.size (W0.heap.size+1) W0.heap.size) (fun ss W1 h=>h.below) hBx hbox hrow
   (fun pre x W hJ hlt=>hcur pre x W hJ hlt) W1 hM).mono ?_
  rintro e W2 ⟨⟨v0,rfl⟩,h2⟩
  obtain⟨v,hv,hr,hnil⟩:=h2.box
  have hend:=run_endLoop (P:=Tryz.prog) h2.L (by simp [AnyZ.apRec])
  obtain⟨W3,hW3⟩:∃ W3,W2.putObj (W0.heap.size+1) (.loop { AnyZ.apRec ρ fn sv w.heap.size W0.heap.size .ready none with state:=.exhausted })=W3:=⟨_,rfl⟩
  rw [hW3] at hend
  have hg3:W2.grownBy W3 (some (W0.heap.size+1)):=by rw [← hW3]; exact grownBy_putObj_a _ _ _
  have hv3:W3.heap[w.heap.size]?=some (.cells #[v] 37 (0,0)):=by rw [← hW3]; exact (World.putObj_heap_other (by omega)).trans hv
  have hK3:W3.heap[W0.heap.size]?=some (.deferred (some [])):=by rw [← hW3]; exact (World.putObj_heap_other (by omega)).trans h2.K
  have hr3:=hr.kept hg3 (ownsRow_ne_a hr h2.L (fun cur e=>by cases e))
  have hb3:Below w.heap.size w W3:=h2.below.grown hg3 h2.below.size (fun k e=>by cases e; omega)
  obtain⟨hc3,hf3⟩:=cell_of_box_a hv3
  clear hW3
  refine⟨none,W3,hend,?_⟩
  gi_wp2
  rw [← hs0]
  refine⟨by simp,.inl ⟨_,_,rfl,run_takeDeferred hK3,?_⟩⟩
  exact⟨_,results_tmp rfl _ _ _,v,rfl,hr3.kept (grownBy_putObj_a _ _ _) (ownsRow_ne_a hr3 hK3 (fun cur e=>by cases e)),hnil,hb3.grown (grownBy_putObj_a _ _ _) hb3.size (fun k e=>by cases e; omega)⟩
set_option maxRecDepth 100000 in
set_option maxHeartbeats 2000000 in
theorem aGt (Bx:Nat) (w:World) (A:Option Addr) (c:Nat) (xs:List (List UInt8)) (hl:xs.length * 16≤140737488355328) (hBx:Bx<w.heap.size) (hbox:w.cell? ⟨Bx,0,none⟩=some (.slice A xs.length c))
  (hrow:0<xs.length→∃ b off,A=some ⟨b,off,none⟩∧b<w.heap.size∧∀ j x,xs[j]?=some x→w.cell? ⟨b,off+j,none⟩=some (encStr x)) :
  Calls Tryz.prog 112 #[.func (.func 114) #[] #[.pointer (some ⟨Bx,0,none⟩)]] w fun e w'=>∃ v,e=.returned v∧w'.ownsRow w.heap.size 9 1 v xs.length (xs.map encStr)∧(v=.slice none 0 0↔xs=[])∧Below w.heap.size w w':=by
 refine (callsIn_wide (n:=6)).1 ?_
 have cS:=(callsIn_wide (n:=5)).2 (aDh Bx w A c xs hl hBx hbox hrow)
 refine callsIn_of_wp Tryz.func112 rfl trivial ?_ rfl
 simp only [Tryz.ntmps112,List.size_toArray,List.length_cons,List.length_nil,Nat.reduceAdd,Nat.reduceSub,Array.replicate_succ,Array.replicate_zero,List.push_toArray,List.append_toArray,List.nil_append,List.cons_append]
 have hfS:Fence.wide.fn 131:=trivial
 gi_wp2_with (gi_at_call 131; refine cS.mono ?_; rintro e w' ⟨v,rfl,hr,hnil,hb⟩)
 go_ret
 exact⟨v,rfl,hr,hnil,hb⟩
set_option maxRecDepth 100000 in
set_option maxHeartbeats 2000000 in
theorem aG1 (Bx:Nat) (w:World) (A:Option Addr) (c:Nat) (xs:List (List UInt8)) (hl:xs.length * 16≤140737488355328) (hBx:Bx<w.heap.size) (hbox:w.cell? ⟨Bx,0,none⟩=some (.slice A xs.length c))
  (hrow:0<xs.length→∃ b off,A=some ⟨b,off,none⟩∧b<w.heap.size∧∀ j x,xs[j]?=some x→w.cell? ⟨b,off+j,none⟩=some (encStr x)) :
  Calls Tryz.prog 86 #[.func (.func 114) #[] #[.pointer (some ⟨Bx,0,none⟩)]] w fun e w'=>∃ v,e=.returned v∧w'.ownsRow w.heap.size 9 1 v xs.length ((xs.mergeSort fun x y=>decide (x≤y)).map encStr)∧(v=.slice none 0 0↔xs=[])∧Below w.heap.size w w':=by
 refine (callsIn_wide (n:=7)).1 ?_
 have cS:=(callsIn_wide (n:=6)).2 (aGt Bx w A c xs hl hBx hbox hrow)
 refine callsIn_of_wp Tryz.func86 rfl trivial ?_ rfl
 simp only [Tryz.ntmps86,List.size_toArray,List.length_cons,List.length_nil,Nat.reduceAdd,Nat.reduceSub,Array.replicate_succ,Array.replicate_zero,List.push_toArray,List.append_toArray,List.nil_append,List.cons_append]
 have hfS:Fence.wide.fn 112:=trivial
 have hfT:Fence.wide.fn 113:=trivial
 gi_wp2_with (gi_at_call 112; refine cS.mono ?_; rintro e W ⟨v,rfl,hr,hnil,hb⟩)
 rcases hr.2 with ⟨rfl,hz⟩ | ⟨gb,cap,cur,rfl,hbase,hgb,r1,r2,r3,r4⟩
 ·have hss:xs=[]:=List.eq_nil_of_length_eq_zero hz
  subst hss
  have cT:=(callsIn_wide (n:=6)).2 (Any.slices_Sort_string_none Tryz.sortL none 0 W)
  change CallsIn _ _ Tryz.prog 113 _ _ _ at cT
  gi_wp2_with (gi_at_call 113; refine cT.mono ?_; rintro e w' ⟨rfl,rfl⟩)
  go_ret
  exact⟨_,rfl,by simpa using hr,by simp,hb⟩
 ·have hH:Holds encStr W gb 0 xs.toArray:=holds_of_block hgb (by simpa using r4)
  have hgl:gb<W.heap.size:=(Array.getElem?_eq_some_iff.1 hgb).1
  have cT:=(callsIn_wide (n:=6)).2 (Any.slices_Sort_string Tryz.sortL gb 0 cap xs W hH hgl (by omega))
  change CallsIn _ _ Tryz.prog 113 _ _ _ at cT
  gi_wp2_with (gi_at_call 113; refine cT.mono ?_; rintro e w' ⟨rfl,nn,os,rfl⟩)
  go_ret
  exact⟨_,rfl,ownsRow_sorted (by simp) hbase hgb r1 r2 r3,hnil,hb.grown (grownBy_sorted _) hb.size (fun j hj=>by cases hj; exact hbase)⟩
end Go.Proofs
