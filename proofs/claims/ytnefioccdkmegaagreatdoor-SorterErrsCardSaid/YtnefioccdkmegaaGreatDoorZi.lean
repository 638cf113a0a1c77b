/- Texts of the claim, joined: what it uses of Mso, Ds0, Ms0, DlSorterErrs, MlSorterErrs, LSorterErrs, DlSorterSorts, DlSorterFull, DlSorterPlans, DlSorterRuns, DlSorterFalls, Qa, Qb. -/
import Derived.Test.YtnefioccdkmegaaGreatDoorZh
import Derived.Test.YtnefioccdkmegaaGreatDoorCards
import Derived.Test.YtnefioccdkmegaaGreatDoorTie
import Derived.SevenTiedAt
import Derived.LaidMore
import Derived.OpenShut
import Derived.Stop.Joined
import Derived.ProofKit
import Derived.IntWalk
namespace Go.Proofs.YtnefioccdkmegaaGreatDoor.M
open Go Go.RowKit Go.Proofs.YtnefioccdkmegaaGreatDoor.E
set_option linter.unusedVariables false
set_option maxRecDepth 100000
set_option maxHeartbeats 4000000
set_option linter.unusedSimpArgs false
section
variable {r:World} {L:List HP} {w:World} {Z:Nat→Prop} {wz:World}
theorem wG {a0 y} (G:jA a0=some y) (X:SH r (L) w) :
  Ret Tryz.prog 19 #[.agg #[.int .i64 a0.f0,.int .i64 a0.f1]] w fun v w'=>v=.bool y∧SH r (L) w':=by
 refine enter Tryz.func19 rfl Tryz.ntmps19 [(0,_)] rfl (by simp) ?_
 intro U J Qf hQ hQn
 unfold jA at G
 refine ws fun S I=>oJ J X (fun Y U w X J=>?_) rfl
 refine x_m J rfl fun U J=>wn (I _ _ ?_)
 refine ws fun a1 H=>aT aEj J (fun U J=>?_) rfl
 refine aK uu3 (X.cell 0 rfl 0 _ rfl) J (fun U J=>?_) rfl
 refine xk 2 J rfl fun U J=>bcG G (fun h G=>?_) fun h G=>?_
 ·refine aM h J ?_ rfl
  refine aT aEj J (fun U J=>?_) rfl
  refine aM h J ?_ rfl
  refine aK uu3 (X.cell 0 rfl 0 _ rfl) J (fun U J=>?_) rfl
  refine xg 3 h J rfl rfl fun U J=>bcG G (fun z G=>?_) fun z G=>?_
  ·refine aM z J ?_ rfl
   refine aT aFy J (fun U J=>?_) rfl
   refine aM z J ?_ rfl
   refine aK uu3 (X.cell 0 rfl 1 _ rfl) J (fun U J=>?_) rfl
   refine xg 3 z J rfl rfl fun U J=>bcG G (fun C G=>?_) fun C G=>?_
   ·refine aM C J ?_ rfl
    refine aT aFy J (fun U J=>?_) rfl
    refine aM C J ?_ rfl
    refine aK uu3 (X.cell 0 rfl 1 _ rfl) J (fun U J=>?_) rfl
    refine ng 3 C J rfl rfl fun U J=>?_
    replace X:=X.drop 0
    cases G
    refine H _ _ (wp_ret ?_)
    refine hQ _ _ (lv Tryz.results19 J rfl ?_)
    exact⟨rfl,X⟩
   refine ng 5 C J rfl rfl fun U J=>?_
   replace X:=X.drop 0
   cases G
   refine H _ _ (wp_ret ?_)
   refine hQ _ _ (lv Tryz.results19 J rfl ?_)
   exact⟨rfl,X⟩
  refine xg 5 z J rfl rfl fun U J=>xO 3 rfl J rfl fun U J=>cA rfl J (fun U J=>?_) rfl
  refine x_m J rfl fun U J=>wn (H _ _ ?_)
  replace X:=X.drop 0
  cases G
  refine wp_ret (hQ _ _ ?_)
  exact lv Tryz.results19 J rfl ⟨rfl,X⟩
 refine xg 5 h J rfl rfl fun U J=>xO 3 rfl J rfl fun U J=>cA rfl J (fun U J=>?_) rfl
 refine x_m J rfl fun U J=>xO 3 rfl J rfl fun U J=>cA rfl J (fun U J=>?_) rfl
 refine x_m J rfl fun U J=>wn (H _ _ ?_)
 replace X:=X.drop 0
 cases G
 refine wp_ret (hQ _ _ ?_)
 exact lv Tryz.results19 J rfl ⟨rfl,X⟩
theorem uT {a0 a1 g0 l0 A1 n1 c1 y} (G:jO a0 a1=some y) (X:SH r (obj67 l0 g0 a0::zone Z wz::L) w) (ha1:Imm Z wz k47 A1 n1 c1 a1) (hG1:Imm Z wz (kI .u32) (some ⟨1,0,none⟩) 16 16 cX) (hG2:Gb Z wz 2 .u64 cO) :
  Ret Tryz.prog 41 #[.pointer (some ⟨g0,0,none⟩),.slice A1 n1 c1] w fun v w'=>∃ (Z':Nat→Prop) (wz':World),v=.tuple #[(str y.1),(.int .i64 y.2.1)]∧Sub Z wz Z' wz'∧SH r (obj67 l0 g0 y.2.2::zone Z' wz'::L) w':=by
 refine aVe Tryz.func41 rfl Tryz.ntmps41 [(0,(pP g0)),(1,.slice A1 n1 c1)] rfl (by simp) ?_
 intro U J Qf hQ hQD
 unfold jO at G
 obtain⟨h,z,C,X⟩:=bB ((mO X).pk 1)
 refine nz 2 J rfl fun U J=>ws fun e7 c5=>xk 2 J rfl fun U J=>aT aLu J (fun U J=>?_) rfl
 refine aK uu3 (X.cell 2 rfl 4 _ rfl) J (fun U J=>?_) rfl
 obtain⟨a7,c6,G⟩:=bnd G
 refine x_c bBa J rfl (aFm c6 X 3 rfl hG2 :) fun v U w hR J=>?_
 obtain⟨rfl,X⟩:=hR
 obtain⟨c7,G⟩:=aB G
 refine x_v J (aWa rfl (J.ev rfl) (J.ev rfl) c7) rfl fun U J=>x_m J rfl fun U J=>wn (c5 _ _ ?_)
 refine ws fun e8 c8=>xk 2 J rfl fun U J=>aT aLu J (fun U J=>?_) rfl
 refine aK uu3 (X.cell 2 rfl 4 _ rfl) J (fun U J=>?_) rfl
 refine x_l G J rfl fun a3 _ U J G=>xk 1 J rfl fun U J=>aT aLu J (fun U J=>?_) rfl
 refine dH 2 sz3 J X rfl (fun  U w X J=>?_) rfl
 refine wn (c8 _ _ ?_)
 refine ws fun e9 c9=>iE (cs:=[.slice none 0 0]) bBb J X (fun a4 U w X J=>?_) rfl
 refine wn (c9 _ _ ?_)
 refine wp_seq_k fun f5 d0=>ws fun f6 d1=>xk 1 J rfl fun U J=>x_c aXa J rfl (xH (L:=blk a4 32 [.slice none 0 0]::blk g0 67 [.pointer (some ⟨l0,0,none⟩),.int .i64 a0.f1.f0,.int .i64 a0.f1.f1,.int .i64 a0.f2,.int .i64 a3]::blk l0 58 [.slice h z C,.int .i64 a0.f0.f1,.int .i64 a0.f0.f2,.bool a0.f0.f3,.int .i64 a0.f0.f4]::own2 kp64 (kI .u8) 5 (fun x:S64=>x.f1) 64 h z C a0.f0.f0::zone Z wz::L) (A:=A1) (n:=n1) (c:=c1) (k:=64) (by decide) X) fun v U w hR J=>?_
 obtain⟨a5,a6,rfl,X⟩:=hR
 refine wn (d1 _ _ ?_)
 refine aA fun f7 d2=>?_
 replace X:=(SH.nil_own (d:=(kI .u8)) (e:=5) X).pk 7 |>.pk 1 |>.pk 7 |>.pk 4 |>.pk 4 |>.pk 5 |>.pk 7 |>.pk 7
 obtain⟨d3,b4,G⟩:=bnd G
 obtain⟨d4,b4⟩:=aB b4
 refine aNm (d:=k47) chunk_hands47.hands aZp rfl b4 (J.sub [(0,(pP g0)),(6,str ([114,117,110,46]++a7)),(7,(pP a4)),(23,.func (.func 52) #[] #[.pointer (some ⟨a5,0,none⟩),(pP a6)])] rfl) (Imm.pieces ha1) d4 (fun (s:((List Int))) E=>∃ (Y:Nat→Prop) (a2:World) (H:Option Addr) (I:Nat) (S:Nat),Sub Z wz Y a2∧Imm Y a2 k47 A1 n1 c1 a1∧E=[blk g0 67 [.pointer (some ⟨l0,0,none⟩),.int .i64 a0.f1.f0,.int .i64 a0.f1.f1,.int .i64 a0.f2,.int .i64 a3],blk l0 58 [.slice h z C,.int .i64 a0.f0.f1,.int .i64 a0.f0.f2,.bool a0.f0.f3,.int .i64 a0.f0.f4],blk a4 32 [.slice H I S],blk a5 22 [.slice A1 n1 c1],blk a6 3 [.int .i64 64],own2 kp64 (kI .u8) 5 (fun x:S64=>x.f1) 64 h z C a0.f0.f0,own (kI .u8) 5 H I S s,zone Y a2]) [blk g0 67 [.pointer (some ⟨l0,0,none⟩),.int .i64 a0.f1.f0,.int .i64 a0.f1.f1,.int .i64 a0.f2,.int .i64 a3],blk l0 58 [.slice h z C,.int .i64 a0.f0.f1,.int .i64 a0.f0.f2,.bool a0.f0.f3,.int .i64 a0.f0.f4],blk a4 32 [.slice none 0 0],blk a5 22 [.slice A1 n1 c1],blk a6 3 [.int .i64 64],own2 kp64 (kI .u8) 5 (fun x:S64=>x.f1) 64 h z C a0.f0.f0,own (kI .u8) 5 none 0 0 [],zone Z wz] ⟨Z,wz,none,0,0,(Sub.refl _ _),ha1,rfl⟩ X ?_ ?_ ?_ rfl rfl rfl rfl rfl rfl
 ·rintro s E ⟨Y,a2,H,I,S,a8,b3,rfl⟩
  exact⟨3,4,_,_,rfl,rfl⟩
 ·intro lp k d5 d6 E B U w hlt G hX J X Qr hLO hK
  obtain⟨a9,rfl⟩:∃ q,q=d5:=⟨_,rfl⟩
  try dsimp only at hX
  obtain⟨Y,a2,H,I,S,a8,b3,rfl⟩:=hX
  replace X:SH r (blk g0 67 [.pointer (some ⟨l0,0,none⟩),.int .i64 a0.f1.f0,.int .i64 a0.f1.f1,.int .i64 a0.f2,.int .i64 a3]::blk l0 58 [.slice h z C,.int .i64 a0.f0.f1,.int .i64 a0.f0.f2,.bool a0.f0.f3,.int .i64 a0.f0.f4]::blk a4 32 [.slice H I S]::blk a5 22 [.slice A1 n1 c1]::blk a6 3 [.int .i64 64]::own2 kp64 (kI .u8) 5 (fun x:S64=>x.f1) 64 h z C a0.f0.f0::own (kI .u8) 5 H I S a9::zone Y a2::B) w:=X
  obtain⟨f8,f9,hpv,b5⟩:=Imm.piece b3 rfl hlt
  replace J:=hpv▸J
  clear hpv
  generalize List.take 64 (List.drop (k * 64) a1)=d7 at G b5
  replace G:jL a9 d7=some d6:=G
  unfold jL at G
  refine aA6 fun g1 d8=>xF hLO (by kernel_rfl) (aK fC (X.cell 2 rfl 0 _ rfl) J (fun U J=>?_) rfl)
  refine x_m J rfl fun U J=>?_
  replace X:=X.pk 7 |>.pk 7
  obtain⟨d9,e0,G⟩:=bnd G
  refine x_c bA0 J rfl (aJc e0 X b5 (Imm.sub hG1 a8) :) fun v U w hR J=>?_
  obtain⟨c0,c3,b6,b7,b8,rfl,b9,X⟩:=hR
  have g2:=Imm.sub b5 b9
  have e1:=Imm.sub b3 b9
  refine dH 4 aCt J X rfl (fun  U w X J=>?_) rfl
  refine wpList_nil ?_
  replace X:=X.pk 2 |>.pk 2 |>.pk 7 |>.pk 7 |>.pk 7 |>.pk 5 |>.pk 7 |>.pk 7
  obtain rfl:=Option.some.inj G
  exact d8 _ _ (hK _ _ [blk g0 67 [.pointer (some ⟨l0,0,none⟩),.int .i64 a0.f1.f0,.int .i64 a0.f1.f1,.int .i64 a0.f2,.int .i64 a3],blk l0 58 [.slice h z C,.int .i64 a0.f0.f1,.int .i64 a0.f0.f2,.bool a0.f0.f3,.int .i64 a0.f0.f4],blk a4 32 [.slice b6 b7 b8],blk a5 22 [.slice A1 n1 c1],blk a6 3 [.int .i64 64],own2 kp64 (kI .u8) 5 (fun x:S64=>x.f1) 64 h z C a0.f0.f0,own (kI .u8) 5 b6 b7 b8 d9,zone c0 c3] ⟨c0,c3,b6,b7,b8,(Sub.trans a8 b9),e1,rfl⟩ X)
 ·intro e2 E U w hX J X
  obtain⟨a9,rfl⟩:∃ q,q=d3:=⟨_,rfl⟩
  try dsimp only at hX
  obtain⟨Y,a2,H,I,S,a8,b3,rfl⟩:=hX
  replace X:SH r (blk g0 67 [.pointer (some ⟨l0,0,none⟩),.int .i64 a0.f1.f0,.int .i64 a0.f1.f1,.int .i64 a0.f2,.int .i64 a3]::blk l0 58 [.slice h z C,.int .i64 a0.f0.f1,.int .i64 a0.f0.f2,.bool a0.f0.f3,.int .i64 a0.f0.f4]::blk a4 32 [.slice H I S]::blk a5 22 [.slice A1 n1 c1]::blk a6 3 [.int .i64 64]::own2 kp64 (kI .u8) 5 (fun x:S64=>x.f1) 64 h z C a0.f0.f0::own (kI .u8) 5 H I S a9::zone Y a2::oT e2 (.deferred (some []))::L) w:=X
  replace G:lH a0 a7 a3 a9=some y:=G
  unfold lH at G
  refine d2 _ _ (d0 _ _ ?_)
  refine wp_seq_k fun g3 e3=>dE [0,0,2,6,14,0,0,126,255,511] [7] rfl J X (by kernel_rfl) (by kernel_rfl) (by kernel_rfl) (by kernel_rfl) fun w X=>⟨[(0,str ([114,117,110,46]++a7)),(1,(pP g0)),(2,(pP g0)),(3,(pP g0)),(4,(pP l0)),(5,str ([114,117,110,46]++a7)),(6,.slice H I S)],?_⟩
  refine dF [0,1,2,3,4,5,6] [7] (by kernel_rfl) ⟨pm rfl,pm rfl,pt [(29,_)] rfl (fun U J=>dC rfl (J.ev rfl)),pt [(30,_)] rfl (fun U J=>eR aHt J rfl rfl),pt [(31,_)] rfl (fun U J=>cM yK (X.cell 0 rfl 0 _ rfl) J rfl rfl rfl),pm rfl,pt [(7,_)] rfl (fun U J=>cM fC (X.cell 2 rfl 0 _ rfl) J rfl rfl rfl),trivial⟩ ⟨et [(32,_),(33,_),(34,_)] rfl (fun U J K hK=>?_),trivial⟩
  replace X:=SH.optS (aL (x:=a0.f0) (X.pk 5 |>.pk 2))
  obtain⟨e4,e5,G⟩:=bnd G
  refine pQ aVt J (pK e5 X (RdL.own 4 rfl (X.dropN 1)) :) (fun v w hR=>?_) rfl
  obtain⟨rfl,X⟩:=hR
  obtain⟨c4,e6,G⟩:=bnd G
  rw [e6] at X
  obtain⟨g4,g5,g6,X⟩:=bB (SH.unoptP X)
  refine hK _ [(8,str ([114,117,110,46]++a7)),(9,.int .i64 e4.1)] _ rfl (gW [0,8,9] (by kernel_rfl) ⟨pm rfl,pm rfl,pm rfl,trivial⟩ ⟨by kernel_rfl,by kernel_rfl⟩ [(0,_),(4,_),(5,_)] rfl (fun U J=>?_))
  replace X:=(aL (x:=c4) (X.pk 1 |>.pk 1)).pk 1
  replace X:=(iU (x:=(⟨c4,a0.f1,a0.f2,a3⟩:S67)) X).drop 1 |>.drop 1 |>.drop 1 |>.drop 1 |>.pk 1 |>.pk 1
  cases G
  refine e3 _ _ (wp_ret ?_)
  exact hQD _ _ _ _ _ _ J (X.pk 2) fun U w J X=>lv2 Tryz.results41 J rfl rfl ⟨Y,a2,rfl,a8,X⟩
theorem uU {a0 a1 g0 l0 y} (G:jQ a0 a1=some y) (X:SH r (obj67 l0 g0 a0::zone Z wz::L) w) (hG1:Imm Z wz (kI .u32) (some ⟨1,0,none⟩) 16 16 cX) :
  Ret Tryz.prog 45 #[.pointer (some ⟨g0,0,none⟩),str a1] w fun v w'=>∃ (Z':Nat→Prop) (wz':World) (B0:Option Addr) (m0:Nat) (d0:Nat),v=.tuple #[(.slice B0 m0 d0),(.int .i64 y.2.1)]∧Sub Z wz Z' wz'∧SH r (own k47 47 B0 m0 d0 y.1::obj67 l0 g0 y.2.2::zone Z' wz'::L) w':=by
 refine enter Tryz.func45 rfl Tryz.ntmps45 [(0,_),(1,_)] rfl (by simp) ?_
 intro U J Qf hQ hQn
 unfold jQ at G
 obtain⟨h9,i0,i1,X⟩:=bB ((mO X).pk 1)
 refine nz 2 J rfl fun U J=>ws fun i2 e0=>xk 2 J rfl fun U J=>aT aHt J (fun U J=>?_) rfl
 refine aK yK (X.cell 2 rfl 0 _ rfl) J (fun U J=>?_) rfl
 refine x_m J rfl fun U J=>?_
 replace X:=SH.optS (aL (x:=a0.f0) (X.pk 1 |>.pk 1))
 obtain⟨a8,e1,G⟩:=bnd G
 refine x_c bA8 J rfl (aBd e1 X :) fun v U w hR J=>?_
 obtain⟨a9,b3,b4,rfl,X⟩:=hR
 obtain⟨h,z,C,X⟩:=bB (SH.unoptP (X.pk 1))
 refine xk 2 J rfl fun U J=>?_
 replace X:=X.pk 4 |>.pk 3
 obtain⟨e2,e3,X,e4,e5⟩:=SH.freeze (n:=b3) (c:=b4) (A:=a9) X
 refine nk 3 J rfl fun U J=>e0 _ _ (nz 1 J rfl fun U J=>?_)
 refine wp_seq_k fun i3 e6=>nz 1 J rfl fun U J=>aA fun d5 e7=>?_
 have hb1:∀c8 c9,mA a0 a1 c8 c9=some y→∀a3 a4 b5 b6 b7 (d1:Sub Z wz a3 a4) U w,FR 52 [] U [(0,(pP g0)),(1,str a1),(7,.int .i64 c8),(8,.slice b5 b6 b7)]→SH r (blk g0 67 [.pointer (some ⟨l0,0,none⟩),.int .i64 a0.f1.f0,.int .i64 a0.f1.f1,.int .i64 a0.f2,.int .i64 a0.f3]::blk l0 58 [.slice h z C,.int .i64 a0.f0.f1,.int .i64 a0.f0.f2,.bool a0.f0.f3,.int .i64 a0.f0.f4]::own2 kp64 (kI .u8) 5 (fun x:S64=>x.f1) 64 h z C a0.f0.f0::own k47 47 b5 b6 b7 c9::zone a3 a4::L) w→d5 U w:=by
  intro c8 c9 G a3 a4 b5 b6 b7 d1 U w J X
  unfold mA at G
  refine e7 _ _ (e6 _ _ ?_)
  refine wp_seq_k fun i4 e8=>nz 2 J rfl fun U J=>bH J G rfl (fun e9 G=>?_) fun e9 G=>?_
  ·refine nz 3 J rfl fun U J=>?_
   replace X:=(iU (x:=a0) ((aL (x:=a0.f0) ((SH.nil_own (d:=k47) (e:=47) X).pk 3 |>.pk 3)).pk 2)).drop 2 |>.pk 2 |>.pk 1 |>.pk 2
   cases G
   refine wp_ret (hQ _ _ ?_)
   exact lv2 Tryz.results45 J rfl rfl ⟨a3,a4,none,0,0,rfl,d1,X⟩
  refine wp_skip (e8 _ _ ?_)
  refine ws fun i5 f5=>xk 3 J rfl fun U J=>aT aHt J (fun U J=>?_) rfl
  refine aK yK (X.cell 0 rfl 0 _ rfl) J (fun U J=>?_) rfl
  refine x_m J rfl fun U J=>?_
  replace X:=SH.optS (aL (x:=a0.f0) (X.pk 2 |>.pk 2))
  obtain⟨i6,f6,G⟩:=bnd G
  refine x_c aW4 J rfl (uI f6 X :) fun v U w hR J=>?_
  obtain⟨rfl,X⟩:=hR
  obtain⟨d6,f7,G⟩:=bnd G
  rw [f7] at X
  obtain⟨i7,i8,i9,X⟩:=bB (SH.unoptP X)
  refine nk 2 J rfl fun U J=>?_
  replace X:=(aL (x:=d6) (X.pk 1 |>.pk 1)).pk 1
  replace X:=(iU (x:=(⟨d6,a0.f1,a0.f2,a0.f3⟩:S67)) X).pk 2 |>.pk 1 |>.pk 2
  cases G
  refine f5 _ _ (wp_ret ?_)
  refine hQ _ _ (lv2 Tryz.results45 J rfl rfl ?_)
  exact⟨a3,a4,b5,b6,b7,rfl,d1,X⟩
 obtain⟨f8,f9,G⟩:=bnd G
 have g1:∀a5 a6,(a5,a6)=f8→∀b8 b9 c0 c3 c4 (d7:Sub Z wz b8 b9) U w,FR 52 [] U [(0,(pP g0)),(1,str a1),(7,.int .i64 a5),(8,.slice c0 c3 c4)]→SH r (blk g0 67 [.pointer (some ⟨l0,0,none⟩),.int .i64 a0.f1.f0,.int .i64 a0.f1.f1,.int .i64 a0.f2,.int .i64 a0.f3]::blk l0 58 [.slice h z C,.int .i64 a0.f0.f1,.int .i64 a0.f0.f2,.bool a0.f0.f3,.int .i64 a0.f0.f4]::own2 kp64 (kI .u8) 5 (fun x:S64=>x.f1) 64 h z C a0.f0.f0::own k47 47 c0 c3 c4 a6::zone b8 b9::L) w→d5 U w:=by
  intro a5 a6 ht b8 b9 c0 c3 c4 d7 U w J X
  subst ht
  replace G:kD a0 a1 a5 a6=some y:=G
  unfold kD at G
  exact hb1 a5 a6 G b8 b9 c0 c3 c4 d7 U w (J.sub _ rfl) X
 replace X:=(SH.nil_own (d:=k47) (e:=47) X).pk 1 |>.pk 1 |>.pk 3 |>.pk 3 |>.pk 4
 refine aE f9 (fun s U w=>∃H I S Y a2,Sub Z wz H I∧Imm H I (kI .u8) a9 b3 b4 a8.1∧FR 52 [] U [(0,(pP g0)),(1,str a1),(6,.slice a9 b3 b4),(7,.int .i64 s.1),(8,.slice S Y a2),(9,.int .i64 s.2.2)]∧SH r (blk g0 67 [.pointer (some ⟨l0,0,none⟩),.int .i64 a0.f1.f0,.int .i64 a0.f1.f1,.int .i64 a0.f2,.int .i64 a0.f3]::blk l0 58 [.slice h z C,.int .i64 a0.f0.f1,.int .i64 a0.f0.f2,.bool a0.f0.f3,.int .i64 a0.f0.f4]::own2 kp64 (kI .u8) 5 (fun x:S64=>x.f1) 64 h z C a0.f0.f0::own k47 47 S Y a2 s.2.1::zone H I::L) w) ⟨e2,e3,none,0,0,e5,e4,J.sub _ rfl,X⟩ ?_
 intro j0 g2 d8 G g3 g4 U w hLab
 obtain⟨c5,c6,c7⟩:=g2
 replace G:cW a0 a8 c5 c6 c7=some d8:=G
 unfold cW at G
 try dsimp only at hLab
 obtain⟨H,I,S,Y,a2,d2,d3,J,X⟩:=hLab
 refine wp_seq_k fun j1 g5=>wp_seq_k fun g6 g7=>?_
 have hj1:∀d4,gR a0 a8 c5 c6 c7 d4=some d8→∀U w,FR 52 [] U [(0,(pP g0)),(1,str a1),(6,.slice a9 b3 b4),(7,.int .i64 c5),(8,.slice S Y a2),(9,.int .i64 c7),(27,.bool d4)]→SH r (blk g0 67 [.pointer (some ⟨l0,0,none⟩),.int .i64 a0.f1.f0,.int .i64 a0.f1.f1,.int .i64 a0.f2,.int .i64 a0.f3]::blk l0 58 [.slice h z C,.int .i64 a0.f0.f1,.int .i64 a0.f0.f2,.bool a0.f0.f3,.int .i64 a0.f0.f4]::own2 kp64 (kI .u8) 5 (fun x:S64=>x.f1) 64 h z C a0.f0.f0::own k47 47 S Y a2 c6::zone H I::L) w→g6 U w:=by
  intro d4 G U w J X
  unfold gR at G
  refine g7 _ _ (bH J G rfl (fun g8 G=>?_) fun g8 G=>?_)
  ·refine wp_skip (g5 _ _ ?_)
   refine aA fun j2 g9=>nz 1 J rfl fun U J=>ws fun j3 h0=>xk 4 J rfl fun U J=>aT aVh J (fun U J=>?_) rfl
   refine aK uu3 (X.cell 0 rfl 3 _ rfl) J (fun U J=>?_) rfl
   replace X:=X.pk 4
   obtain⟨j4,h1,G⟩:=bnd G
   refine x_c bAs J rfl (aH5 h1 X d3 (Imm.sub hG1 d2) :) fun v U w hR J=>?_
   obtain⟨h2,h3,j5,j6,j7,rfl,d9,X⟩:=hR
   have h4:=Imm.sub d3 d9
   refine nk 7 J rfl fun U J=>h0 _ _ (aC ?_)
   refine xk 2 J rfl fun U J=>?_
   obtain⟨h5,G⟩:=aB G
   have hr:=X.rd 0 rfl
   refine iP 5 aJu gO J X hr.1 hr.2.1 h5 rfl (fun h6 h7 h8 U w X J=>?_) rfl
   refine x_m J rfl fun U J=>wpList_nil ?_
   replace X:=X.drop 1 |>.pk 1 |>.pk 1 |>.pk 4 |>.pk 4 |>.pk 4
   cases G
   exact g9 _ _ ⟨_,g3 _ rfl,h2,h3,h6,h7,h8,(Sub.trans d2 d9),h4,J.sub _ rfl,X⟩
  cases G
  exact wp_exit (g1 c5 c6 (g4 _ rfl) H I S Y a2 d2 U w (J.sub _ rfl) X)
 refine aC (xk 3 J rfl fun U J=>?_)
 refine bcG G (fun a7 G=>?_) fun a7 G=>?_
 ·refine xg 2 a7 J rfl rfl fun U J=>aM a7 J ?_ rfl
  refine bC fC (X.imm 4 d3 rfl).2.1 J (fun U J=>?_) rfl
  exact ng 2 a7 J rfl rfl fun U J=>hj1 (decide (c7<(a8.1.length:Int))) G U w (J.sub _ rfl) X
 exact ng 5 a7 J rfl rfl fun U J=>hj1 false G U w (J.sub _ rfl) X
theorem sW {a0 p0 y} (G:jF a0=some y) (X:SH r (qS (obj58) p0 a0::L) w) :
  Ret Tryz.prog 21 #[.pointer p0] w fun v w'=>v=.int .i64 y.1∧SH r (qS (obj58) p0 y.2::L) w':=by
 refine enter Tryz.func21 rfl Tryz.ntmps21 [(0,_)] rfl (by simp) ?_
 intro U J Qf hQ hQn
 unfold jF at G
 cases a0 with
 | none =>
  have hU:=SH.unoptN X
  clear X
  obtain⟨rfl,X⟩:=hU
  refine nz 1 J rfl fun U J=>wp_seq_k fun i2 i3=>ws fun i4 e2=>xk 1 J rfl fun U J=>x_v (v:=.bool true) J (uH (p:=none) yK rfl (J.ev rfl) (J.ev rfl)) rfl fun U J=>wn (e2 _ _ ?_)
  refine c_t (b:=true) rfl J ?_ rfl
  refine nz 1 J rfl fun U J=>?_
  replace X:=SH.optN (obj58) X
  cases G
  refine wp_ret (hQ _ _ ?_)
  exact lv Tryz.results21 J rfl ⟨rfl,X⟩
 | some e3 =>
  have hU:=SH.unoptS X
  clear X
  obtain⟨h,rfl,X⟩:=hU
  obtain⟨i5,i6,i7,X⟩:=bB X
  refine nz 1 J rfl fun U J=>wp_seq_k fun i8 e4=>ws fun i9 e5=>xk 1 J rfl fun U J=>x_v (v:=.bool false) J (uH (p:=some ⟨h,0,none⟩) yK rfl (J.ev rfl) (J.ev rfl)) rfl fun U J=>wn (e5 _ _ ?_)
  refine c_f (b:=false) rfl J ?_ rfl
  refine wp_skip (e4 _ _ ?_)
  refine wp_seq_k fun j0 e6=>ws fun j1 e7=>xk 1 J rfl fun U J=>?_
  replace X:=SH.optS (aL (x:=e3) (X.pk 1 |>.pk 1))
  obtain⟨C,e8,G⟩:=bnd G
  refine x_c aYh J rfl (wO e8 X :) fun v U w hR J=>?_
  obtain⟨a5,a6,a7,rfl,X⟩:=hR
  obtain⟨e9,f5,f6,X⟩:=bB (SH.unoptP (X.pk 1))
  refine bC lL (X.rd 2 rfl).2.1 J (fun U J=>?_) rfl
  refine x_m J rfl fun U J=>wn (e7 _ _ ?_)
  refine aA fun d8 f7=>?_
  have hb1:∀a8 a9 b3 b4 b5,uQ a8 a9 b3 b4 b5=some y→∀c9 d0 d1 U w,FR 24 [] U [(0,(pP h))]→SH r (blk h 58 [.slice c9 d0 d1,.int .i64 a9,.int .i64 b3,.bool b4,.int .i64 b5]::own2 kp64 (kI .u8) 5 (fun x:S64=>x.f1) 64 c9 d0 d1 a8::L) w→d8 U w:=by
   intro a8 a9 b3 b4 b5 G c9 d0 d1 U w J X
   unfold uQ at G
   refine f7 _ _ (e6 _ _ ?_)
   refine nz 1 J rfl fun U J=>?_
   replace X:=X.pk 1 |>.pk 1
   replace X:=SH.optS (aL (x:=(⟨a8,a9,b3,b4,b5⟩:S58)) X)
   cases G
   refine wp_ret (hQ _ _ ?_)
   exact lv Tryz.results21 J rfl ⟨rfl,X⟩
  obtain⟨f8,f9,G⟩:=bnd G
  have g0:=G
  have g1:∀H I S Y a1,(.inl (H,I,S,Y,a1))=f8→∀b6 b7 b8 U w,FR 24 [] U [(0,(pP h))]→SH r (blk h 58 [.slice b6 b7 b8,.int .i64 I,.int .i64 S,.bool Y,.int .i64 a1]::own2 kp64 (kI .u8) 5 (fun x:S64=>x.f1) 64 b6 b7 b8 H::L) w→d8 U w:=by
   intro H I S Y a1 ht b6 b7 b8 U w J X
   subst ht
   replace G:oL H I S Y a1=some y:=G
   unfold oL at G
   exact hb1 H I S Y a1 G b6 b7 b8 U w (J.sub _ rfl) X
  refine aE f9 (fun s U w=>∃a2 a3 a4,FR 24 [] U [(0,(pP h)),(9,.slice a5 a6 a7),(10,.int .i64 (C.length:Int)),(11,.int .i64 s.2.2.2.2.2)]∧SH r (blk h 58 [.slice a2 a3 a4,.int .i64 s.2.1,.int .i64 s.2.2.1,.bool s.2.2.2.1,.int .i64 s.2.2.2.2.1]::own2 kp64 (kI .u8) 5 (fun x:S64=>x.f1) 64 a2 a3 a4 s.1::own kS 9 a5 a6 a7 C::L) w) ⟨e9,f5,f6,J.sub _ rfl,X⟩ ?_
  intro j2 g2 d9 G g3 e0 U w hLab
  obtain⟨b9,c0,c3,c4,c5,d2⟩:=g2
  replace G:eF C b9 c0 c3 c4 c5 d2=some d9:=G
  unfold eF at G
  try dsimp only at hLab
  obtain⟨a2,a3,a4,J,X⟩:=hLab
  refine nz 1 J rfl fun U J=>wp_seq_k fun j3 g4=>bH J G rfl (fun g5 G=>?_) fun g5 G=>?_
  ·refine wp_skip (g4 _ _ ?_)
   refine wp_seq_k fun j4 g6=>aA fun g7 g8=>?_
   have hb2:∀d3 d4 d5 d6 d7,lR d2 d3 d4 d5 d6 d7=some d9→∀c6 c7 c8 U w,FR 24 [] U [(0,(pP h)),(9,.slice a5 a6 a7),(10,.int .i64 (C.length:Int)),(11,.int .i64 d2)]→SH r (blk h 58 [.slice c6 c7 c8,.int .i64 d4,.int .i64 d5,.bool d6,.int .i64 d7]::own2 kp64 (kI .u8) 5 (fun x:S64=>x.f1) 64 c6 c7 c8 d3::own kS 9 a5 a6 a7 C::L) w→g7 U w:=by
    intro d3 d4 d5 d6 d7 G c6 c7 c8 U w J X
    unfold lR at G
    refine g8 _ _ (g6 _ _ ?_)
    refine aC (x_l G J rfl fun j5 _ U J G=>?_)
    refine x_m J rfl fun U J=>wpList_nil ?_
    cases G
    exact⟨_,g3 _ rfl,c6,c7,c8,J.sub _ rfl,X⟩
   refine ws fun j6 g9=>?_
   obtain⟨j7,e1,G⟩:=bnd G
   refine fR lL sz9 (X.rd 2 rfl) e1 J (fun U J=>?_) rfl
   obtain⟨cs,hV,h0⟩:=el (X.rd 2 rfl) e1
   obtain rfl:=hV
   refine aK uu9 (h0 0 _ rfl) J (fun U J=>?_) rfl
   refine x_m J rfl fun U J=>wn (g9 _ _ ?_)
   refine ws fun j8 h1=>xk 1 J rfl fun U J=>?_
   obtain⟨j9,h2,G⟩:=bnd G
   refine x_c bBf J rfl (aAq h2 X :) fun v U w hR J=>?_
   obtain⟨rfl,X⟩:=hR
   refine wn (h1 _ _ ?_)
   refine bH J G rfl (fun h3 G=>?_) fun h3 G=>?_
   ·refine ws fun k0 h4=>xk 2 J rfl fun U J=>?_
    replace X:=X.pk 1 |>.pk 1
    replace X:=SH.optS (aL (x:=(⟨b9,c0,c3,c4,c5⟩:S58)) X)
    obtain⟨h5,h6,G⟩:=bnd G
    refine x_c aW4 J rfl (uI h6 X :) fun v U w hR J=>?_
    obtain⟨rfl,X⟩:=hR
    obtain⟨z,h7,G⟩:=bnd G
    rw [h7] at X
    obtain⟨h8,h9,i0,X⟩:=bB (SH.unoptP X)
    refine x_m J rfl fun U J=>wn (h4 _ _ ?_)
    refine nz 2 J rfl fun U J=>bH J G rfl (fun i1 G=>?_) fun i1 G=>?_
    ·refine nz 2 J rfl fun U J=>?_
     replace X:=(SH.optS (aL (x:=z) (X.pk 1 |>.pk 1))).drop 1
     cases G
     refine wp_ret ?_
     have ht:=e0 _ rfl
     subst ht
     replace G:=g0
     replace G:some (h5.1,some z)=some y:=G
     cases G
     refine hQ _ _ (lv Tryz.results21 J rfl ?_)
     exact⟨rfl,X⟩
    exact wp_skip (hb2 z.f0 z.f1 z.f2 z.f3 z.f4 G h8 h9 i0 U w (J.sub _ rfl) X)
   exact wp_skip (hb2 b9 c0 c3 c4 c5 G a2 a3 a4 U w (J.sub _ rfl) X)
  replace X:=X.drop 2
  cases G
  exact wp_exit (g1 b9 c0 c3 c4 c5 (e0 _ rfl) a2 a3 a4 U w (J.sub _ rfl) X)
theorem aBc {a0 a1 g0 l0 A1 n1 c1 y} (G:mW a0 a1=some y) (X:SH r (obj67 l0 g0 a0::zone Z wz::L) w) (ha1:Imm Z wz kS A1 n1 c1 a1) (hG1:Imm Z wz (kI .u32) (some ⟨1,0,none⟩) 16 16 cX) (hG2:Gb Z wz 2 .u64 cO) :
  Ret Tryz.prog 44 #[.pointer (some ⟨g0,0,none⟩),.slice A1 n1 c1] w fun v w'=>∃ (Z':Nat→Prop) (wz':World),v=.tuple #[(str y.1),(.int .i64 y.2.1)]∧Sub Z wz Z' wz'∧SH r (obj67 l0 g0 y.2.2::zone Z' wz'::L) w':=by
 refine enter Tryz.func44 rfl Tryz.ntmps44 [(0,_),(1,_)] rfl (by simp) ?_
 intro U J Qf hQ hQn
 unfold mW at G
 obtain⟨h9,i0,i1,X⟩:=bB ((mO X).pk 1)
 refine nz 2 J rfl fun U J=>wp_seq_k fun n4 i2=>ws fun n5 i3=>xk 1 J rfl fun U J=>bC lL (X.imm 3 ha1 rfl).2.1 J (fun U J=>?_) rfl
 refine nk 1 J rfl fun U J=>i3 _ _ (bH J G rfl (fun i4 G=>?_) fun i4 G=>?_)
 ·refine ws fun n6 i5=>xk 1 J rfl fun U J=>?_
  obtain⟨n7,g9,G⟩:=bnd G
  refine fR lL sz9 (X.imm 3 ha1 rfl) g9 J (fun U J=>?_) rfl
  obtain⟨cs,hV,i6⟩:=el (X.imm 3 ha1 rfl) g9
  obtain rfl:=hV
  refine aK uu9 (i6 0 _ rfl) J (fun U J=>?_) rfl
  refine nk 2 J rfl fun U J=>?_
  replace X:=(iU (x:=a0) ((aL (x:=a0.f0) (X.pk 1 |>.pk 1)).pk 1)).pk 1 |>.pk 1
  cases G
  refine i5 _ _ (wp_ret ?_)
  refine hQ _ _ (lv2 Tryz.results44 J rfl rfl ?_)
  exact⟨Z,wz,rfl,(Sub.refl _ _),X⟩
 refine wp_skip (i2 _ _ ?_)
 refine nz 1 J rfl fun U J=>wp_seq_k fun n8 i7=>ws fun n9 i8=>xk 1 J rfl fun U J=>bC lL (X.imm 3 ha1 rfl).2.1 J (fun U J=>?_) rfl
 refine x_m J rfl fun U J=>wn (i8 _ _ ?_)
 refine aA fun h0 i9=>?_
 have hb1:∀h z C H I a2 a3 a4 a5 f5,mV h z C H I a2 a3 a4 a5 f5=some y→∀a6 a7 f6 f7 f8 f9 g1 g2 (a8:Sub Z wz a6 a7) U w,FR 52 [] U [(0,(pP g0)),(6,.slice f9 g1 g2)]→SH r (blk g0 67 [.pointer (some ⟨l0,0,none⟩),.int .i64 a2,.int .i64 a3,.int .i64 a4,.int .i64 a5]::blk l0 58 [.slice f6 f7 f8,.int .i64 z,.int .i64 C,.bool H,.int .i64 I]::own2 kp64 (kI .u8) 5 (fun x:S64=>x.f1) 64 f6 f7 f8 h::own (kM a6 a7 k47) 22 f9 g1 g2 f5::zone a6 a7::L) w→h0 U w:=by
  intro h z C H I a2 a3 a4 a5 f5 G a6 a7 f6 f7 f8 f9 g1 g2 a8 U w J X
  unfold mV at G
  refine i9 _ _ (i7 _ _ ?_)
  refine ws fun o0 j0=>xk 1 J rfl fun U J=>?_
  obtain⟨o1,j1,G⟩:=bnd G
  refine x_c bA4 J rfl (aJp j1 X 4 rfl (RdL.own 3 rfl (X.dropN 0)) :) fun v U w hR J=>?_
  obtain⟨j2,j3,j4,rfl,X⟩:=hR
  refine nk 5 J rfl fun U J=>j0 _ _ (wp_seq_k fun o2 j5=>?_)
  refine nz 2 J rfl fun U J=>bH J G rfl (fun j6 G=>?_) fun j6 G=>?_
  ·refine nz 3 J rfl fun U J=>?_
   replace X:=X.pk 3 |>.pk 3
   replace X:=(aL (x:=(⟨h,z,C,H,I⟩:S58)) X).pk 2
   replace X:=(iU (x:=(⟨(⟨h,z,C,H,I⟩:S58),(⟨a2,a3⟩:S26),a4,a5⟩:S67)) X).drop 1 |>.drop 1 |>.pk 1 |>.pk 1
   cases G
   refine wp_ret (hQ _ _ ?_)
   exact lv2 Tryz.results44 J rfl rfl ⟨a6,a7,rfl,a8,X⟩
  refine wp_skip (j5 _ _ ?_)
  refine ws fun o3 j7=>xk 2 J rfl fun U J=>?_
  replace X:=X.pk 5 |>.pk 1
  obtain⟨j8,j9,X,h1,c7⟩:=SH.freeze (n:=j3) (c:=j4) (A:=j2) X
  replace X:=(X.pk 4).kind (d':=(kM j8 j9 k47)) rfl (aCv c7)
  replace X:=X.pk 4 |>.pk 4
  replace X:=(aL (x:=(⟨h,z,C,H,I⟩:S58)) X).pk 3
  replace X:=(iU (x:=(⟨(⟨h,z,C,H,I⟩:S58),(⟨a2,a3⟩:S26),a4,a5⟩:S67)) X).pk 2 |>.pk 1
  obtain⟨h2,k0,G⟩:=bnd G
  refine x_c aZx J rfl (uT k0 X h1 (Imm.sub hG1 (Sub.trans a8 c7)) (Gb.sub hG2 (Sub.trans a8 c7)) :) fun v U w hR J=>?_
  obtain⟨h3,h4,rfl,g3,X⟩:=hR
  have o4:=Imm.sub h1 g3
  replace X:=(X.pk 2).kind (d':=(kM h3 h4 k47)) rfl (aCv g3)
  obtain⟨o5,o6,o7,X⟩:=bB ((mO (X.pk 1)).pk 1)
  refine nk 4 J rfl fun U J=>?_
  replace X:=(iU (x:=h2.2.2) ((aL (x:=h2.2.2.f0) (X.pk 1 |>.pk 1)).pk 1)).drop 1 |>.pk 1 |>.pk 1
  cases G
  refine j7 _ _ (wp_ret ?_)
  refine hQ _ _ (lv2 Tryz.results44 J rfl rfl ?_)
  exact⟨h3,h4,rfl,(Sub.trans (Sub.trans a8 c7) g3),X⟩
 obtain⟨k1,k2,G⟩:=bnd G
 have k3:=G
 have k4:∀a9 b3 b4 b5 b6 b7 b8 b9 c0 c3,(.inl (a9,b3,b4,b5,b6,b7,b8,b9,c0,c3))=k1→∀c4 c5 c8 c9 d0 d1 d2 d3 (h5:Sub Z wz c4 c5) U w,FR 52 [] U [(0,(pP g0)),(6,.slice d1 d2 d3)]→SH r (blk g0 67 [.pointer (some ⟨l0,0,none⟩),.int .i64 b7,.int .i64 b8,.int .i64 b9,.int .i64 c0]::blk l0 58 [.slice c8 c9 d0,.int .i64 b3,.int .i64 b4,.bool b5,.int .i64 b6]::own2 kp64 (kI .u8) 5 (fun x:S64=>x.f1) 64 c8 c9 d0 a9::own (kM c4 c5 k47) 22 d1 d2 d3 c3::zone c4 c5::L) w→h0 U w:=by
  intro a9 b3 b4 b5 b6 b7 b8 b9 c0 c3 ht c4 c5 c8 c9 d0 d1 d2 d3 h5 U w J X
  subst ht
  replace G:lK a9 b3 b4 b5 b6 b7 b8 b9 c0 c3=some y:=G
  unfold lK at G
  exact hb1 a9 b3 b4 b5 b6 b7 b8 b9 c0 c3 G c4 c5 c8 c9 d0 d1 d2 d3 h5 U w (J.sub _ rfl) X
 replace X:=(SH.nil_own (d:=(kM Z wz k47)) (e:=22) X).pk 4 |>.pk 1 |>.pk 3 |>.pk 3 |>.pk 4
 refine aE k2 (fun s U w=>∃S Y d4 d5 d6 d7 d8 d9,Sub Z wz S Y∧Imm S Y kS A1 n1 c1 a1∧FR 52 [] U [(0,(pP g0)),(6,.slice d7 d8 d9),(19,.slice A1 n1 c1),(20,.int .i64 (a1.length:Int)),(21,.int .i64 s.2.2.2.2.2.2.2.2.2.2)]∧SH r (blk g0 67 [.pointer (some ⟨l0,0,none⟩),.int .i64 s.2.2.2.2.2.1,.int .i64 s.2.2.2.2.2.2.1,.int .i64 s.2.2.2.2.2.2.2.1,.int .i64 s.2.2.2.2.2.2.2.2.1]::blk l0 58 [.slice d4 d5 d6,.int .i64 s.2.1,.int .i64 s.2.2.1,.bool s.2.2.2.1,.int .i64 s.2.2.2.2.1]::own2 kp64 (kI .u8) 5 (fun x:S64=>x.f1) 64 d4 d5 d6 s.1::own (kM S Y k47) 22 d7 d8 d9 s.2.2.2.2.2.2.2.2.2.1::zone S Y::L) w) ⟨Z,wz,h9,i0,i1,none,0,0,(Sub.refl _ _),ha1,J.sub _ rfl,X⟩ ?_
 intro o8 k5 k6 G k7 h6 U w hLab
 obtain⟨e0,e1,e2,e3,e4,g4,g5,g6,g7,h7,k8⟩:=k5
 replace G:fA a1 e0 e1 e2 e3 e4 g4 g5 g6 g7 h7 k8=some k6:=G
 unfold fA at G
 try dsimp only at hLab
 obtain⟨S,Y,d4,d5,d6,d7,d8,d9,e5,g8,J,X⟩:=hLab
 refine nz 1 J rfl fun U J=>wp_seq_k fun o9 k9=>bH J G rfl (fun l1 G=>?_) fun l1 G=>?_
 ·refine wp_skip (k9 _ _ ?_)
  refine wp_seq_k fun p0 l2=>aA fun p1 l3=>ws fun p2 l4=>?_
  obtain⟨p3,h8,G⟩:=bnd G
  refine fR lL sz9 (X.imm 4 g8 rfl) h8 J (fun U J=>?_) rfl
  obtain⟨cs,hV,l5⟩:=el (X.imm 4 g8 rfl) h8
  obtain rfl:=hV
  refine aK uu9 (l5 0 _ rfl) J (fun U J=>?_) rfl
  refine x_m J rfl fun U J=>wn (l4 _ _ ?_)
  refine ws fun p4 l6=>xk 2 J rfl fun U J=>?_
  replace X:=X.pk 2 |>.pk 2
  replace X:=(aL (x:=(⟨e0,e1,e2,e3,e4⟩:S58)) X).pk 1
  replace X:=(iU (x:=(⟨(⟨e0,e1,e2,e3,e4⟩:S58),(⟨g4,g5⟩:S26),g6,g7⟩:S67)) X).pk 2 |>.pk 1
  obtain⟨c6,l7,G⟩:=bnd G
  refine x_c aXb J rfl (uU l7 X (Imm.sub hG1 e5) :) fun v U w hR J=>?_
  obtain⟨l8,l9,e6,e7,e8,rfl,e9,X⟩:=hR
  have m0:=Imm.sub g8 e9
  replace X:=(X.pk 3).kind (d':=(kM l8 l9 k47)) rfl (aCv e9)
  obtain⟨m1,m2,m3,X⟩:=bB ((mO (X.pk 2)).pk 1)
  refine xk 2 J rfl fun U J=>?_
  replace X:=X.pk 5 |>.pk 5
  obtain⟨f2,f3,X,m4,f4⟩:=SH.freeze (n:=e7) (c:=e8) (A:=e6) X
  have m5:=Imm.sub m0 f4
  replace X:=(X.pk 4).kind (d':=(kM f2 f3 k47)) rfl (aCv f4)
  refine nk 3 J rfl fun U J=>l6 _ _ (wp_seq_k fun p5 m6=>?_)
  refine nz 2 J rfl fun U J=>bH J G rfl (fun m7 G=>?_) fun m7 G=>?_
  ·refine nz 3 J rfl fun U J=>?_
   replace X:=(iU (x:=c6.2.2) ((aL (x:=c6.2.2.f0) (X.pk 3 |>.pk 3)).pk 3)).drop 1 |>.pk 1 |>.pk 1
   cases G
   refine wp_ret ?_
   have ht:=h6 _ rfl
   subst ht
   replace G:=k3
   replace G:some ([],c6.2.1,c6.2.2)=some y:=G
   cases G
   refine hQ _ _ (lv2 Tryz.results44 J rfl rfl ?_)
   exact⟨f2,f3,rfl,(Sub.trans (Sub.trans e5 e9) f4),X⟩
  refine wp_skip (m6 _ _ ?_)
  refine aC (xk 2 J rfl fun U J=>?_)
  refine iV (d:=(kM f2 f3 k47)) (e:=22) (ps:=#[(0,.slice e6 e7 e8)]) (cells:=[.slice e6 e7 e8]) (xs:=[c6.1]) (fun w=>by kernel_rfl) rfl ⟨[.slice e6 e7 e8],_,rfl,⟨_,_,_,rfl,m4⟩,rfl⟩ J X (fun p6 U w X J=>?_) rfl
  obtain⟨m8,G⟩:=aB G
  have hr:=X.rd 0 rfl
  refine iP 1 aU2 qJ J X hr.1 hr.2.1 m8 rfl (fun m9 n0 n3 U w X J=>?_) rfl
  refine x_m J rfl fun U J=>wpList_nil (l3 _ _ ?_)
  refine l2 _ _ (aC ?_)
  refine x_l G J rfl fun p7 _ U J G=>x_m J rfl fun U J=>wpList_nil ?_
  replace X:=X.drop 1 |>.pk 1 |>.pk 1 |>.pk 3 |>.pk 3 |>.pk 4
  cases G
  exact⟨_,k7 _ rfl,f2,f3,m1,m2,m3,m9,n0,n3,(Sub.trans (Sub.trans e5 e9) f4),m5,J.sub _ rfl,X⟩
 cases G
 exact wp_exit (k4 e0 e1 e2 e3 e4 g4 g5 g6 g7 h7 (h6 _ rfl) S Y d4 d5 d6 d7 d8 d9 e5 U w (J.sub _ rfl) X)
theorem aA1 {a0 a1 g0 l0 A1 n1 c1 y} (G:nF a0 a1=some y) (X:SH r (obj67 l0 g0 a0::zone Z wz::L) w) (ha1:Imm Z wz k47 A1 n1 c1 a1) (hG1:Imm Z wz (kI .u32) (some ⟨1,0,none⟩) 16 16 cX) (hG2:Gb Z wz 2 .u64 cO) :
  Ret Tryz.prog 29 #[.pointer (some ⟨g0,0,none⟩),.slice A1 n1 c1] w fun v w'=>∃ (Z':Nat→Prop) (wz':World) (B0:Option Addr) (m0:Nat) (d0:Nat),v=.tuple #[(.slice B0 m0 d0),(.int .i64 y.2.1),(.int .i64 y.2.2.1),(.int .i64 y.2.2.2.1)]∧Sub Z wz Z' wz'∧SH r (own k47 47 B0 m0 d0 y.1::obj67 l0 g0 y.2.2.2.2::zone Z' wz'::L) w':=by
 refine aS6 Tryz.func29 rfl Tryz.ntmps29 [(0,(pP g0)),(1,.slice A1 n1 c1)] rfl (by simp) ?_
 intro U J Qf hQD
 unfold nF at G
 replace X:SH r (obj67 l0 g0 a0::zone Z wz::kA ([]:List Nat)::L) w:=(SH.marks0 X).sk 2
 obtain⟨C5,C6,C7,X⟩:=bB ((mO X).pk 1)
 refine ws fun C8 u9=>oJ J X (fun Y U w X J=>?_) rfl
 refine iE (cs:=[.slice none 0 0]) aZ9 J X (fun z U w X J=>?_) rfl
 refine iE (cs:=[.int .i64 0]) zr3 J X (fun C U w X J=>?_) rfl
 refine iE (cs:=[.int .i64 0]) zr3 J X (fun H U w X J=>?_) rfl
 refine iE (cs:=[.int .i64 0]) bBi J X (fun I U w X J=>?_) rfl
 refine wn (u9 _ _ ?_)
 refine wp_seq_k fun C9 v0=>ws fun D0 v1=>aK aK2 (X.cell 4 rfl 0 _ rfl) J (fun U J=>?_) rfl
 refine xk 1 J rfl fun U J=>aT aHt J (fun U J=>?_) rfl
 refine aK yK (X.cell 7 rfl 0 _ rfl) J (fun U J=>?_) rfl
 replace X:=SH.optS (aL (x:=a0.f0) (X.pk 6 |>.pk 6))
 obtain⟨D1,v2,G⟩:=bnd G
 refine x_c aRn J rfl (sW v2 X :) fun v U w hR J=>?_
 obtain⟨rfl,X⟩:=hR
 obtain⟨a7,v3,G⟩:=bnd G
 rw [v3] at X
 obtain⟨i2,i3,i4,X⟩:=bB (SH.unoptP X)
 refine x_m J rfl fun U J=>wn (v1 _ _ ?_)
 refine nz 2 J rfl fun U J=>bH J G rfl (fun v4 G=>?_) fun v4 G=>?_
 ·refine ws fun D2 v5=>xk 1 J rfl fun U J=>dH 5 aCu J X rfl (fun  U w X J=>?_) rfl
  refine dH 5 sz3 J X rfl (fun  U w X J=>?_) rfl
  refine dH 5 sz3 J X rfl (fun  U w X J=>?_) rfl
  refine dH 5 aNu J X rfl (fun  U w X J=>?_) rfl
  refine wn (v5 _ _ ?_)
  refine wp_ret (hQD _ _ _ _ _ _ J (X.pk 9) fun U w J X=>?_)
  have hS0:=X
  replace X:=(aL (x:=a7) ((SH.nil_own (d:=k47) (e:=47) X).pk 6 |>.pk 6)).pk 7
  replace X:=(iU (x:=(⟨a7,a0.f1,a0.f2,a0.f3⟩:S67)) X).drop 2 |>.drop 2 |>.drop 2 |>.drop 2 |>.drop 2 |>.pk 2 |>.pk 1 |>.pk 2
  cases G
  refine aJm Tryz.results29 gO uu3 uu3 aOd (hS0.cell 3 rfl 0 _ rfl) (hS0.cell 2 rfl 0 _ rfl) (hS0.cell 1 rfl 0 _ rfl) (hS0.cell 0 rfl 0 _ rfl) J rfl rfl rfl rfl ?_ rfl
  exact⟨Z,wz,none,0,0,rfl,(Sub.refl _ _),X⟩
 refine wp_skip (v0 _ _ ?_)
 refine ws fun D3 v6=>iE (cs:=[.slice none 0 0]) aWt J X (fun a2 U w X J=>?_) rfl
 refine wn (v6 _ _ ?_)
 refine wp_seq_k fun D4 v7=>ws fun D5 v8=>xk 1 J rfl fun U J=>aK aK2 (X.cell 7 rfl 0 _ rfl) J (fun U J=>?_) rfl
 refine xk 1 J rfl fun U J=>aT aPz J (fun U J=>?_) rfl
 refine aT aEj J (fun U J=>?_) rfl
 refine aK uu3 (X.cell 8 rfl 1 _ rfl) J (fun U J=>?_) rfl
 obtain⟨v9,G⟩:=aB G
 refine x_c aXa J rfl (xH (L:=blk a2 37 [.slice none 0 0]::blk l0 58 [.slice i2 i3 i4,.int .i64 a7.f1,.int .i64 a7.f2,.bool a7.f3,.int .i64 a7.f4]::own2 kp64 (kI .u8) 5 (fun x:S64=>x.f1) 64 i2 i3 i4 a7.f0::blk I 28 [.int .i64 0]::blk H 3 [.int .i64 0]::blk C 3 [.int .i64 0]::blk z 22 [.slice none 0 0]::blk Y 65 [.pointer (some ⟨g0,0,none⟩)]::blk g0 67 [.pointer (some ⟨l0,0,none⟩),.int .i64 a0.f1.f0,.int .i64 a0.f1.f1,.int .i64 a0.f2,.int .i64 a0.f3]::zone Z wz::kA ([]:List Nat)::L) (A:=A1) (n:=n1) (c:=c1) (k:=a0.f1.f0) v9 X) fun v U w hR J=>?_
 obtain⟨f9,g1,rfl,X⟩:=hR
 refine wn (v8 _ _ ?_)
 refine aA fun D6 w0=>?_
 replace X:=(SH.nil_own (d:=kS) (e:=9) X).pk 12 |>.pk 1 |>.pk 6 |>.pk 4 |>.pk 4 |>.pk 5 |>.pk 7 |>.pk 8 |>.pk 9 |>.pk 10 |>.pk 11 |>.pk 11 |>.pk 12
 obtain⟨D7,q8,G⟩:=bnd G
 obtain⟨i5,q8⟩:=aB q8
 refine aDl (d:=k47) (q:=a0.f1.f0.toNat) chunk_hands47 aZp ⟨by have:=i5.2; omega,by have:=i5.2; omega⟩ q8 (J.sub [(0,(pP g0)),(2,(pP Y)),(4,(pP z)),(5,(pP C)),(6,(pP H)),(7,(pP I)),(9,(pP a2)),(35,.func (.func 52) #[] #[.pointer (some ⟨f9,0,none⟩),(pP g1)])] rfl) (Imm.pieces ha1) i5.1 (fun (s:((List S64)×Int×Int×Bool×Int×Int×Int×Int×Int×(List (List UInt8)))) E=>∃ (c6:Nat→Prop) (c7:World) (a9:Option Addr) (b3:Nat) (b4:Nat) (b5:Option Addr) (b6:Nat) (b7:Nat),Sub Z wz c6 c7∧Imm c6 c7 k47 A1 n1 c1 a1∧E=[blk g0 67 [.pointer (some ⟨l0,0,none⟩),.int .i64 s.2.2.2.2.2.1,.int .i64 s.2.2.2.2.2.2.1,.int .i64 s.2.2.2.2.2.2.2.1,.int .i64 s.2.2.2.2.2.2.2.2.1],blk l0 58 [.slice a9 b3 b4,.int .i64 s.2.1,.int .i64 s.2.2.1,.bool s.2.2.2.1,.int .i64 s.2.2.2.2.1],blk Y 65 [.pointer (some ⟨g0,0,none⟩)],blk z 22 [.slice none 0 0],blk C 3 [.int .i64 0],blk H 3 [.int .i64 0],blk I 28 [.int .i64 0],blk a2 37 [.slice b5 b6 b7],blk f9 22 [.slice A1 n1 c1],blk g1 3 [.int .i64 a0.f1.f0],own2 kp64 (kI .u8) 5 (fun x:S64=>x.f1) 64 a9 b3 b4 s.1,own kS 9 b5 b6 b7 s.2.2.2.2.2.2.2.2.2,zone c6 c7]) (fun (s:((List S64)×Int×Int×Bool×Int×Int×Int×Int×Int×Int)) E=>∃ (i6:Nat→Prop) (i7:World) (i8:Option Addr) (i9:Nat) (j0:Nat),Sub Z wz i6 i7∧E=[blk g0 67 [.pointer (some ⟨l0,0,none⟩),.int .i64 s.2.2.2.2.2.1,.int .i64 s.2.2.2.2.2.2.1,.int .i64 s.2.2.2.2.2.2.2.1,.int .i64 s.2.2.2.2.2.2.2.2.1],blk l0 58 [.slice i8 i9 j0,.int .i64 s.2.1,.int .i64 s.2.2.1,.bool s.2.2.2.1,.int .i64 s.2.2.2.2.1],blk z 22 [.slice none 0 0],blk C 3 [.int .i64 0],blk H 3 [.int .i64 0],blk I 28 [.int .i64 s.2.2.2.2.2.2.2.2.2],own2 kp64 (kI .u8) 5 (fun x:S64=>x.f1) 64 i8 i9 j0 s.1,zone i6 i7]) [blk g0 67 [.pointer (some ⟨l0,0,none⟩),.int .i64 a0.f1.f0,.int .i64 a0.f1.f1,.int .i64 a0.f2,.int .i64 a0.f3],blk l0 58 [.slice i2 i3 i4,.int .i64 a7.f1,.int .i64 a7.f2,.bool a7.f3,.int .i64 a7.f4],blk Y 65 [.pointer (some ⟨g0,0,none⟩)],blk z 22 [.slice none 0 0],blk C 3 [.int .i64 0],blk H 3 [.int .i64 0],blk I 28 [.int .i64 0],blk a2 37 [.slice none 0 0],blk f9 22 [.slice A1 n1 c1],blk g1 3 [.int .i64 a0.f1.f0],own2 kp64 (kI .u8) 5 (fun x:S64=>x.f1) 64 i2 i3 i4 a7.f0,own kS 9 none 0 0 [],zone Z wz] ⟨Z,wz,i2,i3,i4,none,0,0,(Sub.refl _ _),ha1,rfl⟩ X ?_ ?_ ?_ ?_ rfl
 ·rintro s E ⟨c6,c7,a9,b3,b4,b5,b6,b7,d5,m3,rfl⟩
  exact⟨8,9,_,_,_,rfl,rfl,by have:=i5.2; omega⟩
 ·intro lp k j1 w1 E B U w hlt G hX J X Qr hLO hK hKr
  obtain⟨d6,d7,d8,d9,e0,g2,g3,g4,g5,a8⟩:=j1
  try dsimp only at hX
  obtain⟨c6,c7,a9,b3,b4,b5,b6,b7,d5,m3,rfl⟩:=hX
  replace X:SH r (blk g0 67 [.pointer (some ⟨l0,0,none⟩),.int .i64 g2,.int .i64 g3,.int .i64 g4,.int .i64 g5]::blk l0 58 [.slice a9 b3 b4,.int .i64 d7,.int .i64 d8,.bool d9,.int .i64 e0]::blk Y 65 [.pointer (some ⟨g0,0,none⟩)]::blk z 22 [.slice none 0 0]::blk C 3 [.int .i64 0]::blk H 3 [.int .i64 0]::blk I 28 [.int .i64 0]::blk a2 37 [.slice b5 b6 b7]::blk f9 22 [.slice A1 n1 c1]::blk g1 3 [.int .i64 a0.f1.f0]::own2 kp64 (kI .u8) 5 (fun x:S64=>x.f1) 64 a9 b3 b4 d6::own kS 9 b5 b6 b7 a8::zone c6 c7::B) w:=X
  obtain⟨w2,t6,hpv,t7⟩:=Imm.pieceq m3 (by have:=i5.2; omega) hlt
  replace J:=hpv▸J
  clear hpv
  generalize List.take (a0.f1.f0.toNat) (List.drop (k * a0.f1.f0.toNat) a1)=w3 at G t7
  replace G:fV d6 d7 d8 d9 e0 g2 g3 g4 g5 a8 w3=some w1:=G
  unfold fV at G
  refine aA6 fun D8 w4=>wpIn_seq_k fun D9 w5=>aSi [0,0,2,7,15,31,31,63,255] [2,3] rfl J X (by kernel_rfl) (by kernel_rfl) (by kernel_rfl) (by kernel_rfl) (by kernel_rfl) hLO fun w X=>⟨[(0,(pP g0)),(1,.slice w2 t6 t6)],?_⟩
  refine dF [0,1] [2] (by kernel_rfl) ⟨pt [(2,_)] rfl (fun U J=>cM aK2 (X.cell 2 rfl 0 _ rfl) J rfl rfl rfl),pm rfl,trivial⟩ ⟨et [(39,_)] rfl (fun U J K hK=>?_),trivial⟩
  obtain⟨E0,w6,G⟩:=bnd G
  refine pQ bAl J (aIl w6 X (t7.rdl 12 rfl) :) (fun v w hR=>?_) rfl
  obtain⟨w7,w8,w9,rfl,X⟩:=hR
  refine hK _ [] _ rfl (dF [0] [3] (by kernel_rfl) ⟨pt [(2,_)] rfl (fun U J=>cM aK2 (X.cell 3 rfl 0 _ rfl) J rfl rfl rfl),trivial⟩ ⟨et [(38,_),(40,_)] rfl (fun U J K hK=>?_),trivial⟩)
  replace X:=X.pk 13 |>.pk 1
  obtain⟨E1,E2,X,t8,j2⟩:=SH.freeze (n:=w8) (c:=w9) (A:=w7) X
  have x0:=Imm.sub m3 j2
  replace X:=X.pk 11 |>.pk 3
  replace X:=(aL (x:=(⟨d6,d7,d8,d9,e0⟩:S58)) X).pk 2
  replace X:=(iU (x:=(⟨(⟨d6,d7,d8,d9,e0⟩:S58),(⟨g2,g3⟩:S26),g4,g5⟩:S67)) X).pk 1 |>.pk 1
  obtain⟨h,x1,G⟩:=bnd G
  refine pQ aZx J (uT x1 X t8 (Imm.sub hG1 (Sub.trans d5 j2)) (Gb.sub hG2 (Sub.trans d5 j2)) :) (fun v w hR=>?_) rfl
  obtain⟨m4,m5,rfl,m6,X⟩:=hR
  have E3:=Imm.sub t8 m6
  have x2:=Imm.sub x0 m6
  obtain⟨g6,g7,g8,X⟩:=bB ((mO X).pk 1)
  refine hK _ [(4,.tuple #[(str h.1),(.int .i64 h.2.1)]),(5,str h.1),(6,.int .i64 h.2.1),(7,str h.1),(8,.int .i64 h.2.1)] _ rfl (gW [4,5,6,7,8] (by kernel_rfl) ⟨pm rfl,pt [(37,.tuple #[(str h.1),(.int .i64 h.2.1)])] rfl (fun U J=>tJ rfl (J.ev rfl) rfl),pt [(37,.tuple #[(str h.1),(.int .i64 h.2.1)])] rfl (fun U J=>tJ rfl (J.ev rfl) rfl),pm rfl,pm rfl,trivial⟩ ⟨by kernel_rfl,by kernel_rfl⟩ [(0,_),(2,_),(4,_),(5,_),(6,_),(7,_),(9,_),(11,_),(12,_),(35,_)] rfl (fun U J=>?_))
  refine w5 _ _ (wpIn_seq_k fun E4 x3=>?_)
  refine wpIn_seq_k fun E5 x4=>xF hLO (by kernel_rfl) (nk 2 J rfl fun U J=>?_)
  refine x4 _ _ (aUp J rfl (fun q9=>?_) fun q9=>?_)
  ·replace G:=ift q9 G
   refine wpIn_seq_k fun E6 x5=>xF hLO (by kernel_rfl) (x_m J rfl fun U J=>?_)
   refine dH 5 aCu J X rfl (fun  U w X J=>?_) rfl
   refine dH 6 sz3 J X rfl (fun  U w X J=>?_) rfl
   refine dH 7 sz3 J X rfl (fun  U w X J=>?_) rfl
   refine dH 8 aNu J X rfl (fun  U w X J=>?_) rfl
   refine wn (x5 _ _ ?_)
   refine wpIn_ret ?_
   replace X:=X.drop 8 |>.drop 8 |>.drop 8 |>.drop 8 |>.drop 8 |>.pk 7 |>.pk 6 |>.pk 2 |>.pk 3 |>.pk 4 |>.pk 5 |>.pk 6 |>.pk 7
   obtain rfl:=Option.some.inj G
   exact hKr _ _ _ [blk g0 67 [.pointer (some ⟨l0,0,none⟩),.int .i64 h.2.2.f1.f0,.int .i64 h.2.2.f1.f1,.int .i64 h.2.2.f2,.int .i64 h.2.2.f3],blk l0 58 [.slice g6 g7 g8,.int .i64 h.2.2.f0.f1,.int .i64 h.2.2.f0.f2,.bool h.2.2.f0.f3,.int .i64 h.2.2.f0.f4],blk z 22 [.slice none 0 0],blk C 3 [.int .i64 0],blk H 3 [.int .i64 0],blk I 28 [.int .i64 h.2.1],own2 kp64 (kI .u8) 5 (fun x:S64=>x.f1) 64 g6 g7 g8 h.2.2.f0.f0,zone m4 m5] rfl ⟨m4,m5,g6,g7,g8,(Sub.trans (Sub.trans d5 j2) m6),rfl⟩ X
  replace G:=xA q9 G
  refine wpIn_skip (x3 _ _ ?_)
  refine xF hLO (by kernel_rfl) (aK lL (X.cell 9 rfl 0 _ rfl) J (fun U J=>?_) rfl)
  refine x_m J rfl fun U J=>iV (d:=kS) (e:=9) (ps:=#[(0,str h.1)]) (cells:=[str h.1]) (xs:=[h.1]) (fun w=>by kernel_rfl) rfl ⟨[str h.1],_,rfl,rfl,rfl⟩ J X (fun E7 U w X J=>?_) rfl
  obtain⟨x6,G⟩:=aB G
  have hr:=X.rd 0 rfl
  refine iP 13 aJ7 lL J X hr.1 hr.2.1 x6 rfl (fun r0 r1 r2 U w X J=>?_) rfl
  refine dH 11 aSh J X rfl (fun  U w X J=>?_) rfl
  refine wpList_nil ?_
  replace X:=X.drop 2 |>.pk 5 |>.pk 2 |>.pk 4 |>.pk 12 |>.pk 12 |>.pk 5 |>.pk 12 |>.pk 12 |>.pk 12 |>.pk 12 |>.pk 12 |>.pk 11 |>.pk 12
  obtain rfl:=Option.some.inj G
  exact w4 _ _ (hK _ _ _ [blk g0 67 [.pointer (some ⟨l0,0,none⟩),.int .i64 h.2.2.f1.f0,.int .i64 h.2.2.f1.f1,.int .i64 h.2.2.f2,.int .i64 h.2.2.f3],blk l0 58 [.slice g6 g7 g8,.int .i64 h.2.2.f0.f1,.int .i64 h.2.2.f0.f2,.bool h.2.2.f0.f3,.int .i64 h.2.2.f0.f4],blk Y 65 [.pointer (some ⟨g0,0,none⟩)],blk z 22 [.slice none 0 0],blk C 3 [.int .i64 0],blk H 3 [.int .i64 0],blk I 28 [.int .i64 0],blk a2 37 [.slice r0 r1 r2],blk f9 22 [.slice A1 n1 c1],blk g1 3 [.int .i64 a0.f1.f0],own2 kp64 (kI .u8) 5 (fun x:S64=>x.f1) 64 g6 g7 g8 h.2.2.f0.f0,own kS 9 r0 r1 r2 (a8++[h.1]),zone m4 m5] rfl ⟨m4,m5,g6,g7,g8,r0,r1,r2,(Sub.trans (Sub.trans d5 j2) m6),x2,rfl⟩ X)
 ·intro t9 j1 E U w ht hX J X
  subst ht
  obtain⟨d6,d7,d8,d9,e0,g2,g3,g4,g5,a8⟩:=j1
  try dsimp only at hX
  obtain⟨c6,c7,a9,b3,b4,b5,b6,b7,d5,m3,rfl⟩:=hX
  replace X:SH r (blk g0 67 [.pointer (some ⟨l0,0,none⟩),.int .i64 g2,.int .i64 g3,.int .i64 g4,.int .i64 g5]::blk l0 58 [.slice a9 b3 b4,.int .i64 d7,.int .i64 d8,.bool d9,.int .i64 e0]::blk Y 65 [.pointer (some ⟨g0,0,none⟩)]::blk z 22 [.slice none 0 0]::blk C 3 [.int .i64 0]::blk H 3 [.int .i64 0]::blk I 28 [.int .i64 0]::blk a2 37 [.slice b5 b6 b7]::blk f9 22 [.slice A1 n1 c1]::blk g1 3 [.int .i64 a0.f1.f0]::own2 kp64 (kI .u8) 5 (fun x:S64=>x.f1) 64 a9 b3 b4 d6::own kS 9 b5 b6 b7 a8::zone c6 c7::kA (t9::([]:List Nat))::L) w:=X
  replace G:lX d6 d7 d8 d9 e0 g2 g3 g4 g5 a8=some y:=G
  unfold lX at G
  refine w0 _ _ (v7 _ _ ?_)
  refine ws fun E8 x7=>aK lL (X.cell 7 rfl 0 _ rfl) J (fun U J=>?_) rfl
  refine bC lL (X.rd 11 rfl).2.1 J (fun U J=>?_) rfl
  refine nk 2 J rfl fun U J=>x7 _ _ (wp_seq_k fun E9 x8=>?_)
  refine aA fun u0 x9=>?_
  have hb1:∀e1 e2 e3 e4 e5 j3 j4 j5 j6 r3 r4,mU a8 e1 e2 e3 e4 e5 j3 j4 j5 j6 r3 r4=some y→∀m7 m8 r5 r6 r7 r8 j7 m9 n0 (n3:Sub Z wz m7 m8) U w,FR 94 (List.map aAo r5) U [(0,(pP g0)),(2,(pP Y)),(4,(pP z)),(5,(pP C)),(6,(pP H)),(7,(pP I)),(9,(pP a2)),(13,.int .i64 (a8.length:Int)),(14,.int .i64 r4)]→SH r (blk g0 67 [.pointer (some ⟨l0,0,none⟩),.int .i64 j3,.int .i64 j4,.int .i64 j5,.int .i64 j6]::blk l0 58 [.slice r6 r7 r8,.int .i64 e2,.int .i64 e3,.bool e4,.int .i64 e5]::blk Y 65 [.pointer (some ⟨g0,0,none⟩)]::blk z 22 [.slice none 0 0]::blk C 3 [.int .i64 0]::blk H 3 [.int .i64 0]::blk I 28 [.int .i64 0]::blk a2 37 [.slice j7 m9 n0]::own2 kp64 (kI .u8) 5 (fun x:S64=>x.f1) 64 r6 r7 r8 e1::own kS 9 j7 m9 n0 r3::zone m7 m8::kA r5::L) w→u0 U w:=by
   intro e1 e2 e3 e4 e5 j3 j4 j5 j6 r3 r4 G m7 m8 r5 r6 r7 r8 j7 m9 n0 n3 U w J X
   unfold mU at G
   refine x9 _ _ (x8 _ _ ?_)
   refine wp_seq_k fun F1 y0=>nz 2 J rfl fun U J=>bH J G rfl (fun y1 G=>?_) fun y1 G=>?_
   ·refine ws fun F2 y2=>dH 3 aCu J X rfl (fun  U w X J=>?_) rfl
    refine dH 4 sz3 J X rfl (fun  U w X J=>?_) rfl
    refine dH 5 sz3 J X rfl (fun  U w X J=>?_) rfl
    refine dH 6 aNu J X rfl (fun  U w X J=>?_) rfl
    refine wn (y2 _ _ ?_)
    refine wp_ret (hQD _ _ _ _ _ _ J (X.pk 11) fun U w J X=>?_)
    have hS0:=X
    replace X:=(SH.nil_own (d:=k47) (e:=47) X).pk 9 |>.pk 7
    replace X:=(aL (x:=(⟨e1,e2,e3,e4,e5⟩:S58)) X).pk 6
    replace X:=(iU (x:=(⟨(⟨e1,e2,e3,e4,e5⟩:S58),(⟨j3,j4⟩:S26),j5,j6⟩:S67)) X).drop 2 |>.drop 2 |>.drop 2 |>.drop 2 |>.drop 2 |>.drop 2 |>.drop 2 |>.pk 2 |>.pk 1 |>.pk 2
    cases G
    refine aJm Tryz.results29 gO uu3 uu3 aOd (hS0.cell 3 rfl 0 _ rfl) (hS0.cell 2 rfl 0 _ rfl) (hS0.cell 1 rfl 0 _ rfl) (hS0.cell 0 rfl 0 _ rfl) J rfl rfl rfl rfl ?_ rfl
    exact⟨m7,m8,none,0,0,rfl,n3,X⟩
   refine wp_skip (y0 _ _ ?_)
   refine wp_seq_k fun F3 y3=>dE [0,0,2,6,15,31,63,63,127,511] [4] rfl J X (by kernel_rfl) (by kernel_rfl) (by kernel_rfl) (by kernel_rfl) fun w X=>?_
   obtain⟨y4,u1,G⟩:=bnd G
   obtain⟨cs,hV,y5⟩:=el (X.rd 9 rfl) u1
   obtain rfl:=hV
   refine⟨[(0,(pP g0)),(1,.slice j7 m9 n0),(2,.pointer (some (ea j7 ((0:Int).toNat * 1)))),(3,str y4)],?_⟩
   refine dF [0,1,2,3] [4] (by kernel_rfl) ⟨pt [(2,_)] rfl (fun U J=>cM aK2 (X.cell 2 rfl 0 _ rfl) J rfl rfl rfl),pt [(9,_)] rfl (fun U J=>cM lL (X.cell 7 rfl 0 _ rfl) J rfl rfl rfl),pt [(84,_)] rfl (fun U J=>fT lL sz9 (X.rd 9 rfl) u1 J rfl rfl rfl),pt [(85,_)] rfl (fun U J=>cM uu9 (y5 0 _ rfl) J rfl rfl rfl),trivial⟩ ⟨et [(83,_),(86,_)] rfl (fun U J K hK=>?_),trivial⟩
   replace X:=X.pk 8 |>.pk 2
   replace X:=(aL (x:=(⟨e1,e2,e3,e4,e5⟩:S58)) X).pk 1
   replace X:=(iU (x:=(⟨(⟨e1,e2,e3,e4,e5⟩:S58),(⟨j3,j4⟩:S26),j5,j6⟩:S67)) X).pk 8 |>.pk 1
   obtain⟨e6,y6,G⟩:=bnd G
   refine pQ aXb J (uU y6 X (Imm.sub hG1 n3) :) (fun v w hR=>?_) rfl
   obtain⟨y7,y8,g9,h0,h1,rfl,y9,X⟩:=hR
   obtain⟨F5,F6,F7,X⟩:=bB ((mO (X.pk 1)).pk 1)
   refine hK _ [(5,.tuple #[(.slice g9 h0 h1),(.int .i64 e6.2.1)]),(6,.slice g9 h0 h1),(7,.int .i64 e6.2.1),(8,.slice g9 h0 h1),(9,.int .i64 e6.2.1)] _ rfl (gW [5,6,7,8,9] (by kernel_rfl) ⟨pm rfl,pt [(82,.tuple #[(.slice g9 h0 h1),(.int .i64 e6.2.1)])] rfl (fun U J=>tJ rfl (J.ev rfl) rfl),pt [(82,.tuple #[(.slice g9 h0 h1),(.int .i64 e6.2.1)])] rfl (fun U J=>tJ rfl (J.ev rfl) rfl),pm rfl,pm rfl,trivial⟩ ⟨by kernel_rfl,by kernel_rfl⟩ [(0,_),(4,_),(5,_),(6,_),(7,_),(13,_),(14,_),(19,_),(20,_)] rfl (fun U J=>?_))
   refine y3 _ _ (ws fun F8 z0=>?_)
   refine xk 4 J rfl fun U J=>dH 6 aCu J X rfl (fun  U w X J=>?_) rfl
   refine dH 7 sz3 J X rfl (fun  U w X J=>?_) rfl
   refine dH 8 sz3 J X rfl (fun  U w X J=>?_) rfl
   refine dH 9 aNu J X rfl (fun  U w X J=>?_) rfl
   refine wn (z0 _ _ ?_)
   refine wp_ret (hQD _ _ _ _ _ _ J (X.pk 12) fun U w J X=>?_)
   have hS0:=X
   replace X:=(iU (x:=e6.2.2) ((aL (x:=e6.2.2.f0) (X.pk 5 |>.pk 5)).pk 5)).drop 1 |>.drop 1 |>.drop 1 |>.drop 1 |>.drop 3 |>.drop 3 |>.drop 3 |>.pk 2 |>.pk 1 |>.pk 2
   cases G
   refine aJm Tryz.results29 gO uu3 uu3 aOd (hS0.cell 3 rfl 0 _ rfl) (hS0.cell 2 rfl 0 _ rfl) (hS0.cell 1 rfl 0 _ rfl) (hS0.cell 0 rfl 0 _ rfl) J rfl rfl rfl rfl ?_ rfl
   exact⟨y7,y8,g9,h0,h1,rfl,(Sub.trans n3 y9),X⟩
  obtain⟨z1,z2,G⟩:=bnd G
  have z3:=G
  have z4:∀j8 j9 k0 k1 k2 k3 k4 k5 k6 k7 k8,(.inl (j8,j9,k0,k1,k2,k3,k4,k5,k6,k7,k8))=z1→∀n4 n5 n6 n7 n8 n9 o0 o1 o2 (u2:Sub Z wz n4 n5) U w,FR 94 (List.map aAo n6) U [(0,(pP g0)),(2,(pP Y)),(4,(pP z)),(5,(pP C)),(6,(pP H)),(7,(pP I)),(9,(pP a2)),(13,.int .i64 (a8.length:Int)),(14,.int .i64 k8)]→SH r (blk g0 67 [.pointer (some ⟨l0,0,none⟩),.int .i64 k3,.int .i64 k4,.int .i64 k5,.int .i64 k6]::blk l0 58 [.slice n7 n8 n9,.int .i64 j9,.int .i64 k0,.bool k1,.int .i64 k2]::blk Y 65 [.pointer (some ⟨g0,0,none⟩)]::blk z 22 [.slice none 0 0]::blk C 3 [.int .i64 0]::blk H 3 [.int .i64 0]::blk I 28 [.int .i64 0]::blk a2 37 [.slice o0 o1 o2]::own2 kp64 (kI .u8) 5 (fun x:S64=>x.f1) 64 n7 n8 n9 j8::own kS 9 o0 o1 o2 k7::zone n4 n5::kA n6::L) w→u0 U w:=by
   intro j8 j9 k0 k1 k2 k3 k4 k5 k6 k7 k8 ht n4 n5 n6 n7 n8 n9 o0 o1 o2 u2 U w J X
   subst ht
   replace G:lE a8 j8 j9 k0 k1 k2 k3 k4 k5 k6 k7 k8=some y:=G
   unfold lE at G
   exact hb1 j8 j9 k0 k1 k2 k3 k4 k5 k6 k7 k8 G n4 n5 n6 n7 n8 n9 o0 o1 o2 u2 U w (J.sub _ rfl) X
  replace X:=X.drop 8 |>.drop 8
  refine aE z2 (fun s U w=>∃o3 o4 d4 c8 c9 d1 a3 a4 a5,Sub Z wz o3 o4∧FR 94 (List.map aAo d4) U [(0,(pP g0)),(2,(pP Y)),(4,(pP z)),(5,(pP C)),(6,(pP H)),(7,(pP I)),(9,(pP a2)),(13,.int .i64 (a8.length:Int)),(14,.int .i64 s.2.2.2.2.2.2.2.2.2.2)]∧SH r (blk g0 67 [.pointer (some ⟨l0,0,none⟩),.int .i64 s.2.2.2.2.2.1,.int .i64 s.2.2.2.2.2.2.1,.int .i64 s.2.2.2.2.2.2.2.1,.int .i64 s.2.2.2.2.2.2.2.2.1]::blk l0 58 [.slice c8 c9 d1,.int .i64 s.2.1,.int .i64 s.2.2.1,.bool s.2.2.2.1,.int .i64 s.2.2.2.2.1]::blk Y 65 [.pointer (some ⟨g0,0,none⟩)]::blk z 22 [.slice none 0 0]::blk C 3 [.int .i64 0]::blk H 3 [.int .i64 0]::blk I 28 [.int .i64 0]::blk a2 37 [.slice a3 a4 a5]::own2 kp64 (kI .u8) 5 (fun x:S64=>x.f1) 64 c8 c9 d1 s.1::own kS 9 a3 a4 a5 s.2.2.2.2.2.2.2.2.2.1::zone o3 o4::kA d4::L) w) ⟨c6,c7,(t9::([]:List Nat)),a9,b3,b4,b5,b6,b7,d5,J.sub _ rfl,X⟩ ?_
  intro F9 z5 r9 G z6 u3 U w hLab
  obtain⟨o5,o6,o7,o8,o9,p0,a6,p1,p2,p3,p4⟩:=z5
  replace G:cK o5 o6 o7 o8 o9 p0 a6 p1 p2 p3 p4=some r9:=G
  unfold cK at G
  try dsimp only at hLab
  obtain⟨o3,o4,d4,c8,c9,d1,a3,a4,a5,u4,J,X⟩:=hLab
  refine wp_seq_k fun G0 z7=>ws fun G1 z8=>aK lL (X.cell 7 rfl 0 _ rfl) J (fun U J=>?_) rfl
  refine bC lL (X.rd 9 rfl).2.1 J (fun U J=>?_) rfl
  refine nk 1 J rfl fun U J=>z8 _ _ (bH J G rfl (fun z9 G=>?_) fun z9 G=>?_)
  ·refine wp_skip (z7 _ _ ?_)
   refine wp_seq_k fun G2 A0=>aA fun G3 A3=>ws fun G4 A4=>iE (cs:=[.slice none 0 0]) aWt J X (fun e7 U w X J=>?_) rfl
   refine wn (A4 _ _ ?_)
   refine wp_seq_k fun G5 A5=>wp_seq_k fun G6 A6=>dE [0,0,2,6,14,30,63] [6] rfl J X (by kernel_rfl) (by kernel_rfl) (by kernel_rfl) (by kernel_rfl) fun w X=>⟨[(0,.slice a3 a4 a5),(1,(pP g0)),(2,(pP g0)),(3,.pointer (some ⟨g0,1,none⟩)),(4,.pointer (some ⟨g0,2,none⟩)),(5,.int .i64 a6)],?_⟩
   refine dF [0,1,2,3,4,5] [6] (by kernel_rfl) ⟨pt [(9,_)] rfl (fun U J=>cM lL (X.cell 8 rfl 0 _ rfl) J rfl rfl rfl),pt [(2,_)] rfl (fun U J=>cM aK2 (X.cell 3 rfl 0 _ rfl) J rfl rfl rfl),pt [(59,_)] rfl (fun U J=>dC rfl (J.ev rfl)),pt [(60,_)] rfl (fun U J=>eR aPz J rfl rfl),pt [(61,_)] rfl (fun U J=>eR aFy J rfl rfl),pt [(62,_)] rfl (fun U J=>cM uu3 (X.cell 1 rfl 2 _ rfl) J rfl rfl rfl),trivial⟩ ⟨et [(58,_),(63,_)] rfl (fun U J K hK=>?_),trivial⟩
   obtain⟨A7,G⟩:=aB G
   replace X:=X.pk 11 |>.pk 11
   obtain⟨s2,s3,X,u5,A8⟩:=SH.freeze (n:=a4) (c:=a5) (A:=a3) X
   refine pQ bBo J (aDx (L:=zone s2 s3::blk e7 37 [.slice none 0 0]::blk g0 67 [.pointer (some ⟨l0,0,none⟩),.int .i64 p0,.int .i64 a6,.int .i64 p1,.int .i64 p2]::blk l0 58 [.slice c8 c9 d1,.int .i64 o6,.int .i64 o7,.bool o8,.int .i64 o9]::blk Y 65 [.pointer (some ⟨g0,0,none⟩)]::blk z 22 [.slice none 0 0]::blk C 3 [.int .i64 0]::blk H 3 [.int .i64 0]::blk I 28 [.int .i64 0]::blk a2 37 [.slice a3 a4 a5]::own2 kp64 (kI .u8) 5 (fun x:S64=>x.f1) 64 c8 c9 d1 o5::kA d4::L) (A:=a3) (n:=a4) (c:=a5) (k:=a6) A7 X) (fun v w hR=>?_) rfl
   obtain⟨h2,h3,rfl,X⟩:=hR
   refine hK _ [] _ rfl (gW [] (by kernel_rfl) trivial ⟨by kernel_rfl,by kernel_rfl⟩ [(0,_),(2,_),(4,_),(5,_),(6,_),(7,_),(9,_),(13,_),(14,_),(15,_),(64,_)] rfl (fun U J=>?_))
   refine A6 _ _ (aA fun G7 A9=>?_)
   replace X:=(SH.nil_own (d:=kS) (e:=9) X).pk 3 |>.pk 1 |>.pk 13 |>.pk 4 |>.pk 4 |>.pk 5 |>.pk 13 |>.pk 13 |>.pk 13 |>.pk 13 |>.pk 13 |>.pk 13 |>.pk 13 |>.pk 13
   obtain⟨G8,s4,G⟩:=bnd G
   obtain⟨k9,s4⟩:=aB s4
   refine aDl (d:=kS) (q:=a6.toNat) aHx bAw ⟨by have:=k9.2; omega,by have:=k9.2; omega⟩ s4 (J.sub [(0,(pP g0)),(2,(pP Y)),(4,(pP z)),(5,(pP C)),(6,(pP H)),(7,(pP I)),(9,(pP a2)),(13,.int .i64 (a8.length:Int)),(14,.int .i64 p4),(15,(pP e7)),(64,.func (.func 59) #[] #[.pointer (some ⟨h2,0,none⟩),(pP h3)])] rfl) (Imm.pieces u5) k9.1 (fun (s:((List S64)×Int×Int×Bool×Int×Int×Int×Int×Int×(List (List UInt8)))) E=>∃ (d2:Nat→Prop) (d3:World) (b8:Option Addr) (b9:Nat) (c0:Nat) (c3:Option Addr) (c4:Nat) (c5:Nat),Sub Z wz d2 d3∧Imm d2 d3 kS a3 a4 a5 p3∧E=[blk g0 67 [.pointer (some ⟨l0,0,none⟩),.int .i64 s.2.2.2.2.2.1,.int .i64 s.2.2.2.2.2.2.1,.int .i64 s.2.2.2.2.2.2.2.1,.int .i64 s.2.2.2.2.2.2.2.2.1],blk l0 58 [.slice b8 b9 c0,.int .i64 s.2.1,.int .i64 s.2.2.1,.bool s.2.2.2.1,.int .i64 s.2.2.2.2.1],blk Y 65 [.pointer (some ⟨g0,0,none⟩)],blk z 22 [.slice none 0 0],blk C 3 [.int .i64 0],blk H 3 [.int .i64 0],blk I 28 [.int .i64 0],blk a2 37 [.slice a3 a4 a5],blk e7 37 [.slice c3 c4 c5],blk h2 37 [.slice a3 a4 a5],blk h3 3 [.int .i64 a6],own2 kp64 (kI .u8) 5 (fun x:S64=>x.f1) 64 b8 b9 c0 s.1,own kS 9 c3 c4 c5 s.2.2.2.2.2.2.2.2.2,zone d2 d3]) (fun (s:((List S64)×Int×Int×Bool×Int×Int×Int×Int×Int×Int)) E=>∃ (l1:Nat→Prop) (l2:World) (l3:Option Addr) (l4:Nat) (l5:Nat),Sub Z wz l1 l2∧E=[blk g0 67 [.pointer (some ⟨l0,0,none⟩),.int .i64 s.2.2.2.2.2.1,.int .i64 s.2.2.2.2.2.2.1,.int .i64 s.2.2.2.2.2.2.2.1,.int .i64 s.2.2.2.2.2.2.2.2.1],blk l0 58 [.slice l3 l4 l5,.int .i64 s.2.1,.int .i64 s.2.2.1,.bool s.2.2.2.1,.int .i64 s.2.2.2.2.1],blk z 22 [.slice none 0 0],blk C 3 [.int .i64 0],blk H 3 [.int .i64 0],blk I 28 [.int .i64 s.2.2.2.2.2.2.2.2.2],own2 kp64 (kI .u8) 5 (fun x:S64=>x.f1) 64 l3 l4 l5 s.1,zone l1 l2]) [blk g0 67 [.pointer (some ⟨l0,0,none⟩),.int .i64 p0,.int .i64 a6,.int .i64 p1,.int .i64 p2],blk l0 58 [.slice c8 c9 d1,.int .i64 o6,.int .i64 o7,.bool o8,.int .i64 o9],blk Y 65 [.pointer (some ⟨g0,0,none⟩)],blk z 22 [.slice none 0 0],blk C 3 [.int .i64 0],blk H 3 [.int .i64 0],blk I 28 [.int .i64 0],blk a2 37 [.slice a3 a4 a5],blk e7 37 [.slice none 0 0],blk h2 37 [.slice a3 a4 a5],blk h3 3 [.int .i64 a6],own2 kp64 (kI .u8) 5 (fun x:S64=>x.f1) 64 c8 c9 d1 o5,own kS 9 none 0 0 [],zone s2 s3] ⟨s2,s3,c8,c9,d1,none,0,0,(Sub.trans u4 A8),u5,rfl⟩ X ?_ ?_ ?_ ?_ rfl
   ·rintro s E ⟨d2,d3,b8,b9,c0,c3,c4,c5,e8,p5,rfl⟩
    exact⟨9,10,_,_,_,rfl,rfl,by have:=k9.2; omega⟩
   ·intro lp k l6 B1 E B U w hlt G hX J X Qr hLO hK hKr
    obtain⟨e9,f5,f6,f7,f8,h4,h5,h6,h7,h8⟩:=l6
    try dsimp only at hX
    obtain⟨d2,d3,b8,b9,c0,c3,c4,c5,e8,p5,rfl⟩:=hX
    replace X:SH r (blk g0 67 [.pointer (some ⟨l0,0,none⟩),.int .i64 h4,.int .i64 h5,.int .i64 h6,.int .i64 h7]::blk l0 58 [.slice b8 b9 c0,.int .i64 f5,.int .i64 f6,.bool f7,.int .i64 f8]::blk Y 65 [.pointer (some ⟨g0,0,none⟩)]::blk z 22 [.slice none 0 0]::blk C 3 [.int .i64 0]::blk H 3 [.int .i64 0]::blk I 28 [.int .i64 0]::blk a2 37 [.slice a3 a4 a5]::blk e7 37 [.slice c3 c4 c5]::blk h2 37 [.slice a3 a4 a5]::blk h3 3 [.int .i64 a6]::own2 kp64 (kI .u8) 5 (fun x:S64=>x.f1) 64 b8 b9 c0 e9::own kS 9 c3 c4 c5 h8::zone d2 d3::B) w:=X
    obtain⟨G9,H0,hpv,s5⟩:=Imm.pieceq p5 (by have:=k9.2; omega) hlt
    replace J:=hpv▸J
    clear hpv
    generalize List.take (a6.toNat) (List.drop (k * a6.toNat) p3)=B2 at G s5
    replace G:eZ e9 f5 f6 f7 f8 h4 h5 h6 h7 h8 B2=some B1:=G
    unfold eZ at G
    refine aA6 fun H1 B3=>wpIn_seq_k fun H2 B4=>xF hLO (by kernel_rfl) (aK aK2 (X.cell 2 rfl 0 _ rfl) J (fun U J=>?_) rfl)
    refine x_m J rfl fun U J=>?_
    replace X:=X.pk 11 |>.pk 2
    replace X:=(aL (x:=(⟨e9,f5,f6,f7,f8⟩:S58)) X).pk 1
    replace X:=(iU (x:=(⟨(⟨e9,f5,f6,f7,f8⟩:S58),(⟨h4,h5⟩:S26),h6,h7⟩:S67)) X).pk 11 |>.pk 1
    obtain⟨S,B5,G⟩:=bnd G
    refine x_c bAb J rfl (aBc B5 X s5 (Imm.sub hG1 e8) (Gb.sub hG2 e8) :) fun v U w hR J=>?_
    obtain⟨p6,p7,rfl,p8,X⟩:=hR
    have H3:=Imm.sub s5 p8
    have B6:=Imm.sub p5 p8
    obtain⟨h9,i0,i1,X⟩:=bB ((mO X).pk 1)
    refine nk 5 J rfl fun U J=>B4 _ _ (wpIn_seq_k fun H4 B7=>?_)
    refine wpIn_seq_k fun H5 B8=>xF hLO (by kernel_rfl) (nk 2 J rfl fun U J=>?_)
    refine B8 _ _ (aUp J rfl (fun s6=>?_) fun s6=>?_)
    ·replace G:=ift s6 G
     refine wpIn_seq_k fun H6 B9=>xF hLO (by kernel_rfl) (x_m J rfl fun U J=>?_)
     refine dH 5 aCu J X rfl (fun  U w X J=>?_) rfl
     refine dH 6 sz3 J X rfl (fun  U w X J=>?_) rfl
     refine dH 7 sz3 J X rfl (fun  U w X J=>?_) rfl
     refine dH 8 aNu J X rfl (fun  U w X J=>?_) rfl
     refine wn (B9 _ _ ?_)
     refine wpIn_ret ?_
     replace X:=X.drop 8 |>.drop 8 |>.drop 8 |>.drop 8 |>.drop 8 |>.drop 8 |>.pk 7 |>.pk 6 |>.pk 2 |>.pk 3 |>.pk 4 |>.pk 5 |>.pk 6 |>.pk 7
     obtain rfl:=Option.some.inj G
     exact hKr _ _ _ [blk g0 67 [.pointer (some ⟨l0,0,none⟩),.int .i64 S.2.2.f1.f0,.int .i64 S.2.2.f1.f1,.int .i64 S.2.2.f2,.int .i64 S.2.2.f3],blk l0 58 [.slice h9 i0 i1,.int .i64 S.2.2.f0.f1,.int .i64 S.2.2.f0.f2,.bool S.2.2.f0.f3,.int .i64 S.2.2.f0.f4],blk z 22 [.slice none 0 0],blk C 3 [.int .i64 0],blk H 3 [.int .i64 0],blk I 28 [.int .i64 S.2.1],own2 kp64 (kI .u8) 5 (fun x:S64=>x.f1) 64 h9 i0 i1 S.2.2.f0.f0,zone p6 p7] rfl ⟨p6,p7,h9,i0,i1,(Sub.trans e8 p8),rfl⟩ X
    replace G:=xA s6 G
    refine wpIn_skip (B7 _ _ ?_)
    refine xF hLO (by kernel_rfl) (aK lL (X.cell 10 rfl 0 _ rfl) J (fun U J=>?_) rfl)
    refine x_m J rfl fun U J=>iV (d:=kS) (e:=9) (ps:=#[(0,str S.1)]) (cells:=[str S.1]) (xs:=[S.1]) (fun w=>by kernel_rfl) rfl ⟨[str S.1],_,rfl,rfl,rfl⟩ J X (fun H7 U w X J=>?_) rfl
    obtain⟨C0,G⟩:=aB G
    have hr:=X.rd 0 rfl
    refine iP 14 aJ7 lL J X hr.1 hr.2.1 C0 rfl (fun s7 s8 s9 U w X J=>?_) rfl
    refine dH 12 aSh J X rfl (fun  U w X J=>?_) rfl
    refine wpList_nil ?_
    replace X:=X.drop 2 |>.pk 5 |>.pk 2 |>.pk 4 |>.pk 13 |>.pk 13 |>.pk 5 |>.pk 13 |>.pk 13 |>.pk 13 |>.pk 13 |>.pk 13 |>.pk 13 |>.pk 12 |>.pk 13
    obtain rfl:=Option.some.inj G
    exact B3 _ _ (hK _ _ _ [blk g0 67 [.pointer (some ⟨l0,0,none⟩),.int .i64 S.2.2.f1.f0,.int .i64 S.2.2.f1.f1,.int .i64 S.2.2.f2,.int .i64 S.2.2.f3],blk l0 58 [.slice h9 i0 i1,.int .i64 S.2.2.f0.f1,.int .i64 S.2.2.f0.f2,.bool S.2.2.f0.f3,.int .i64 S.2.2.f0.f4],blk Y 65 [.pointer (some ⟨g0,0,none⟩)],blk z 22 [.slice none 0 0],blk C 3 [.int .i64 0],blk H 3 [.int .i64 0],blk I 28 [.int .i64 0],blk a2 37 [.slice a3 a4 a5],blk e7 37 [.slice s7 s8 s9],blk h2 37 [.slice a3 a4 a5],blk h3 3 [.int .i64 a6],own2 kp64 (kI .u8) 5 (fun x:S64=>x.f1) 64 h9 i0 i1 S.2.2.f0.f0,own kS 9 s7 s8 s9 (h8++[S.1]),zone p6 p7] rfl ⟨p6,p7,h9,i0,i1,s7,s8,s9,(Sub.trans e8 p8),B6,rfl⟩ X)
   ·intro u6 l6 E U w ht hX J X
    subst ht
    obtain⟨e9,f5,f6,f7,f8,h4,h5,h6,h7,h8⟩:=l6
    try dsimp only at hX
    obtain⟨d2,d3,b8,b9,c0,c3,c4,c5,e8,p5,rfl⟩:=hX
    replace X:SH r (blk g0 67 [.pointer (some ⟨l0,0,none⟩),.int .i64 h4,.int .i64 h5,.int .i64 h6,.int .i64 h7]::blk l0 58 [.slice b8 b9 c0,.int .i64 f5,.int .i64 f6,.bool f7,.int .i64 f8]::blk Y 65 [.pointer (some ⟨g0,0,none⟩)]::blk z 22 [.slice none 0 0]::blk C 3 [.int .i64 0]::blk H 3 [.int .i64 0]::blk I 28 [.int .i64 0]::blk a2 37 [.slice a3 a4 a5]::blk e7 37 [.slice c3 c4 c5]::blk h2 37 [.slice a3 a4 a5]::blk h3 3 [.int .i64 a6]::own2 kp64 (kI .u8) 5 (fun x:S64=>x.f1) 64 b8 b9 c0 e9::own kS 9 c3 c4 c5 h8::zone d2 d3::kA (u6::d4)::L) w:=X
    replace G:jK p4 e9 f5 f6 f7 f8 h4 h5 h6 h7 h8=some r9:=G
    unfold jK at G
    refine A9 _ _ (A5 _ _ ?_)
    refine aC (aK lL (X.cell 8 rfl 0 _ rfl) J (fun U J=>?_) rfl)
    refine dH 7 aSh J X rfl (fun  U w X J=>?_) rfl
    refine wpList_nil (A3 _ _ ?_)
    refine A0 _ _ (aC ?_)
    refine x_m J rfl fun U J=>x_l G J rfl fun H8 _ U J G=>x_m J rfl fun U J=>wpList_nil ?_
    replace X:=X.drop 8 |>.drop 8 |>.drop 8 |>.pk 10 |>.pk 10 |>.pk 10 |>.pk 3 |>.pk 10 |>.pk 10 |>.pk 10 |>.pk 10 |>.pk 10 |>.pk 10 |>.pk 10
    cases G
    exact⟨_,z6 _ rfl,d2,d3,(u6::d4),b8,b9,c0,c3,c4,c5,e8,J.sub _ rfl,X⟩
   ·intro C1 l6 E U w ht hX J X
    subst ht
    obtain⟨l7,l8,l9,m1,m2,p9,q0,q1,q2,t0⟩:=l6
    try dsimp only at hX
    obtain⟨l1,l2,l3,l4,l5,C2,rfl⟩:=hX
    replace X:SH r (blk g0 67 [.pointer (some ⟨l0,0,none⟩),.int .i64 p9,.int .i64 q0,.int .i64 q1,.int .i64 q2]::blk l0 58 [.slice l3 l4 l5,.int .i64 l8,.int .i64 l9,.bool m1,.int .i64 m2]::blk z 22 [.slice none 0 0]::blk C 3 [.int .i64 0]::blk H 3 [.int .i64 0]::blk I 28 [.int .i64 t0]::own2 kp64 (kI .u8) 5 (fun x:S64=>x.f1) 64 l3 l4 l5 l7::zone l1 l2::kA (C1::d4)::L) w:=X
    replace G:jH l7 l8 l9 m1 m2 p9 q0 q1 q2 t0=some r9:=G
    unfold jH at G
    refine hQD _ _ _ _ _ _ J (X.pk 8) fun U w J X=>?_
    have hS0:=X
    replace X:=(SH.nil_own (d:=k47) (e:=47) X).pk 7 |>.pk 3
    replace X:=(aL (x:=(⟨l7,l8,l9,m1,m2⟩:S58)) X).pk 2
    replace X:=(iU (x:=(⟨(⟨l7,l8,l9,m1,m2⟩:S58),(⟨p9,q0⟩:S26),q1,q2⟩:S67)) X).drop 2 |>.drop 2 |>.drop 2 |>.drop 2 |>.pk 2 |>.pk 1 |>.pk 2
    cases G
    have ht:=u3 _ rfl
    subst ht
    replace G:=z3
    replace G:some ([],0,0,t0,(⟨(⟨l7,l8,l9,m1,m2⟩:S58),(⟨p9,q0⟩:S26),q1,q2⟩:S67))=some y:=G
    cases G
    refine aJm Tryz.results29 gO uu3 uu3 aOd (hS0.cell 2 rfl 0 _ rfl) (hS0.cell 3 rfl 0 _ rfl) (hS0.cell 4 rfl 0 _ rfl) (hS0.cell 5 rfl 0 _ rfl) J rfl rfl rfl rfl ?_ rfl
    exact⟨l1,l2,none,0,0,rfl,C2,X⟩
  cases G
  exact wp_exit (z4 o5 o6 o7 o8 o9 p0 a6 p1 p2 p3 p4 (u3 _ rfl) o3 o4 d4 c8 c9 d1 a3 a4 a5 u4 U w (J.sub _ rfl) X)
 ·intro C3 j1 E U w ht hX J X
  subst ht
  obtain⟨q3,q4,q5,q6,q7,t1,t3,t4,t5,u7⟩:=j1
  try dsimp only at hX
  obtain⟨i6,i7,i8,i9,j0,C4,rfl⟩:=hX
  replace X:SH r (blk g0 67 [.pointer (some ⟨l0,0,none⟩),.int .i64 t1,.int .i64 t3,.int .i64 t4,.int .i64 t5]::blk l0 58 [.slice i8 i9 j0,.int .i64 q4,.int .i64 q5,.bool q6,.int .i64 q7]::blk z 22 [.slice none 0 0]::blk C 3 [.int .i64 0]::blk H 3 [.int .i64 0]::blk I 28 [.int .i64 u7]::own2 kp64 (kI .u8) 5 (fun x:S64=>x.f1) 64 i8 i9 j0 q3::zone i6 i7::kA (C3::([]:List Nat))::L) w:=X
  replace G:mJ q3 q4 q5 q6 q7 t1 t3 t4 t5 u7=some y:=G
  unfold mJ at G
  refine hQD _ _ _ _ _ _ J (X.pk 8) fun U w J X=>?_
  have hS0:=X
  replace X:=(SH.nil_own (d:=k47) (e:=47) X).pk 7 |>.pk 3
  replace X:=(aL (x:=(⟨q3,q4,q5,q6,q7⟩:S58)) X).pk 2
  replace X:=(iU (x:=(⟨(⟨q3,q4,q5,q6,q7⟩:S58),(⟨t1,t3⟩:S26),t4,t5⟩:S67)) X).drop 2 |>.drop 2 |>.drop 2 |>.drop 2 |>.pk 2 |>.pk 1 |>.pk 2
  cases G
  refine aJm Tryz.results29 gO uu3 uu3 aOd (hS0.cell 2 rfl 0 _ rfl) (hS0.cell 3 rfl 0 _ rfl) (hS0.cell 4 rfl 0 _ rfl) (hS0.cell 5 rfl 0 _ rfl) J rfl rfl rfl rfl ?_ rfl
  exact⟨i6,i7,none,0,0,rfl,C4,X⟩
theorem xC {a0 a1 a2 a3 p0 A1 n1 c1 y} (G:iM a0 a1 a2 a3=some y) (X:SH r (qS (obj58) p0 a0::zone Z wz::L) w) (ha1:Imm Z wz k47 A1 n1 c1 a1) (hG1:Imm Z wz (kI .u32) (some ⟨1,0,none⟩) 16 16 cX) (hG2:Gb Z wz 2 .u64 cO) :
  Ret Tryz.prog 13 #[.pointer p0,.slice A1 n1 c1,.int .i64 a2,.agg #[.int .i64 a3.f0,.int .i64 a3.f1]] w fun v w'=>∃ (Z':Nat→Prop) (wz':World) (B0:Option Addr) (m0:Nat) (d0:Nat),v=.tuple #[(.slice B0 m0 d0),(.int .i64 y.2.1),(.int .i64 y.2.2.1),(.int .i64 y.2.2.2.1)]∧Sub Z wz Z' wz'∧SH r (own k47 47 B0 m0 d0 y.1::qS (obj58) p0 y.2.2.2.2::zone Z' wz'::L) w':=by
 refine enter Tryz.func13 rfl Tryz.ntmps13 [(0,_),(1,_),(2,_),(3,_)] rfl (by simp) ?_
 intro U J Qf hQ hQn
 unfold iM at G
 cases a0 with
 | none =>
  have hU:=SH.unoptN X
  clear X
  obtain⟨rfl,X⟩:=hU
  refine ws fun i5 c9=>oJ J X (fun i6 U w X J=>?_) rfl
  refine nk 4 J rfl fun U J=>c9 _ _ (wp_seq_k fun i7 i8=>?_)
  refine aA fun i9 j0=>ws fun j1 d1=>xk 1 J rfl fun U J=>x_v (v:=.bool true) J (uH (p:=none) yK rfl (J.ev rfl) (J.ev rfl)) rfl fun U J=>x_m J rfl fun U J=>wn (d1 _ _ ?_)
  refine c_t (b:=true) rfl J ?_ rfl
  refine nz 4 J rfl fun U J=>?_
  replace X:=(SH.optN (obj58) (SH.nil_own (d:=k47) (e:=47) X)).drop 2 |>.pk 2 |>.pk 1 |>.pk 2
  cases G
  refine wp_ret (hQ _ _ ?_)
  exact lv4 Tryz.results13 J rfl rfl rfl rfl ⟨Z,wz,none,0,0,rfl,(Sub.refl _ _),X⟩
 | some z =>
  have hU:=SH.unoptS X
  clear X
  obtain⟨C,rfl,X⟩:=hU
  obtain⟨Y,a4,a5,X⟩:=bB X
  refine ws fun j2 d2=>oJ J X (fun H U w X J=>?_) rfl
  refine nk 4 J rfl fun U J=>d2 _ _ (wp_seq_k fun j3 d3=>?_)
  refine aA fun j4 d4=>ws fun j5 d5=>xk 1 J rfl fun U J=>x_v (v:=.bool false) J (uH (p:=some ⟨C,0,none⟩) yK rfl (J.ev rfl) (J.ev rfl)) rfl fun U J=>x_m J rfl fun U J=>wn (d5 _ _ ?_)
  refine c_f (b:=false) rfl J ?_ rfl
  refine wp_seq_k fun d6 d7=>?_
  have hj1:∀b5,jJ a1 a2 a3 z b5=some y→∀U w,FR 68 [] U [(0,(pP C)),(1,.slice A1 n1 c1),(2,.int .i64 a2),(7,(pP H)),(22,.bool b5)]→SH r (blk C 58 [.slice Y a4 a5,.int .i64 z.f1,.int .i64 z.f2,.bool z.f3,.int .i64 z.f4]::blk H 26 [.int .i64 a3.f0,.int .i64 a3.f1]::own2 kp64 (kI .u8) 5 (fun x:S64=>x.f1) 64 Y a4 a5 z.f0::zone Z wz::L) w→d6 U w:=by
   intro b5 G U w J X
   unfold jJ at G
   refine d7 _ _ (bH J G rfl (fun d8 G=>?_) fun d8 G=>?_)
   ·refine nz 4 J rfl fun U J=>?_
    replace X:=(SH.optS (aL (x:=z) ((SH.nil_own (d:=k47) (e:=47) X).pk 3 |>.pk 2))).drop 2 |>.pk 2 |>.pk 1 |>.pk 2
    cases G
    refine wp_ret (hQ _ _ ?_)
    exact lv4 Tryz.results13 J rfl rfl rfl rfl ⟨Z,wz,none,0,0,rfl,(Sub.refl _ _),X⟩
   refine wp_skip (d4 _ _ ?_)
   refine d3 _ _ (wp_seq_k fun j6 d9=>?_)
   refine ws fun j7 e0=>xk 1 J rfl fun U J=>bC gO (X.imm 3 ha1 rfl).2.1 J (fun U J=>?_) rfl
   refine x_m J rfl fun U J=>wn (e0 _ _ ?_)
   refine aA fun c6 e1=>?_
   have hb1:tA a1 a2 a3 z=some y→∀U w,FR 68 [] U [(0,(pP C)),(1,.slice A1 n1 c1),(2,.int .i64 a2),(7,(pP H))]→SH r (blk C 58 [.slice Y a4 a5,.int .i64 z.f1,.int .i64 z.f2,.bool z.f3,.int .i64 z.f4]::blk H 26 [.int .i64 a3.f0,.int .i64 a3.f1]::own2 kp64 (kI .u8) 5 (fun x:S64=>x.f1) 64 Y a4 a5 z.f0::zone Z wz::L) w→c6 U w:=by
    intro G U w J X
    unfold tA at G
    refine e1 _ _ (d9 _ _ ?_)
    refine ws fun j8 e2=>xk 1 J rfl fun U J=>kK (ad:=⟨H,0,none⟩) (cs:=[.int .i64 a3.f0,.int .i64 a3.f1]) aP7 aRm (fun j u h=>by rw [jR,Nat.zero_add]; exact X.cell 1 rfl j u h) J (fun U J=>?_) rfl
    refine x_m J rfl fun U J=>x_v (v:=.agg #[.pointer (some ⟨C,0,none⟩),.int .i64 a3.f0,.int .i64 a3.f1,.int .i64 a2,.int .i64 0]) J (rG (ps:=#[(0,(pP C)),(1,.agg #[.int .i64 a3.f0,.int .i64 a3.f1]),(2,.int .i64 a2)]) rfl (tY J rfl) (fun w=>by kernel_rfl)) rfl fun U J=>oJ J X (fun j9 U w X J=>?_) rfl
    refine x_m J rfl fun U J=>wn (e2 _ _ ?_)
    refine ws fun k0 e3=>xk 2 J rfl fun U J=>?_
    replace X:=(aL (x:=z) (X.pk 3 |>.pk 2)).pk 1
    replace X:=(iU (x:=(⟨z,a3,a2,0⟩:S67)) X).pk 2 |>.pk 1
    obtain⟨S,e4,G⟩:=bnd G
    refine x_c bAq J rfl (aA1 e4 X ha1 hG1 hG2 :) fun v U w hR J=>?_
    obtain⟨b6,b7,e5,e6,e7,rfl,b8,X⟩:=hR
    have k1:=Imm.sub ha1 b8
    obtain⟨e8,e9,f5,X⟩:=bB ((mO (X.pk 1)).pk 1)
    refine nk 9 J rfl fun U J=>e3 _ _ (wp_seq_k fun k2 f6=>?_)
    refine nz 2 J rfl fun U J=>bH J G rfl (fun f7 G=>?_) fun f7 G=>?_
    ·refine wp_seq_k fun f8 f9=>?_
     have hj2:∀a7 a8 a9 b3 b4,tD S a7 a8 a9 b3 b4=some y→∀b9 c0 c3 U w,FR 68 [] U [(0,(pP C)),(18,.int .i64 S.2.2.2.1)]→SH r (blk C 58 [.slice b9 c0 c3,.int .i64 a8,.int .i64 a9,.bool b3,.int .i64 b4]::own2 kp64 (kI .u8) 5 (fun x:S64=>x.f1) 64 b9 c0 c3 a7::zone b6 b7::L) w→f8 U w:=by
      intro a7 a8 a9 b3 b4 G b9 c0 c3 U w J X
      unfold tD at G
      refine f9 _ _ (nz 5 J rfl fun U J=>?_)
      replace X:=(SH.nil_own (d:=k47) (e:=47) X).pk 2 |>.pk 2
      replace X:=(SH.optS (aL (x:=(⟨a7,a8,a9,b3,b4⟩:S58)) X)).pk 2 |>.pk 1 |>.pk 2
      cases G
      refine wp_ret (hQ _ _ ?_)
      exact lv4 Tryz.results13 J rfl rfl rfl rfl ⟨b6,b7,none,0,0,rfl,b8,X⟩
     refine nz 2 J rfl fun U J=>bH J G rfl (fun g0 G=>?_) fun g0 G=>?_
     ·refine aC (x_m J rfl fun U J=>?_)
      replace X:=SH.optS (aL (x:=S.2.2.2.2.f0) (X.pk 1 |>.pk 1))
      obtain⟨k3,g1,G⟩:=bnd G
      refine x_c aRn J rfl (sW g1 X :) fun v U w hR J=>?_
      obtain⟨rfl,X⟩:=hR
      obtain⟨a6,g2,G⟩:=bnd G
      rw [g2] at X
      obtain⟨g3,g4,g5,X⟩:=bB (SH.unoptP X)
      refine wpList_nil ?_
      replace X:=X.drop 2 |>.drop 2 |>.drop 3
      exact hj2 a6.f0 a6.f1 a6.f2 a6.f3 a6.f4 G g3 g4 g5 U w (J.sub _ rfl) X
     replace X:=X.drop 2 |>.drop 2 |>.drop 3
     exact wp_skip (hj2 S.2.2.2.2.f0.f0 S.2.2.2.2.f0.f1 S.2.2.2.2.f0.f2 S.2.2.2.2.f0.f3 S.2.2.2.2.f0.f4 G e8 e9 f5 U w (J.sub _ rfl) X)
    refine wp_skip (f6 _ _ ?_)
    refine nz 7 J rfl fun U J=>?_
    replace X:=(SH.optS (aL (x:=S.2.2.2.2.f0) (X.pk 1 |>.pk 1))).drop 1 |>.drop 3 |>.pk 2 |>.pk 1 |>.pk 2
    cases G
    refine wp_ret (hQ _ _ ?_)
    exact lv4 Tryz.results13 J rfl rfl rfl rfl ⟨b6,b7,e5,e6,e7,rfl,b8,X⟩
   obtain⟨g6,g7,G⟩:=bnd G
   have g8:=G
   have g9:(.inl ())=g6→∀U w,FR 68 [] U [(0,(pP C)),(1,.slice A1 n1 c1),(2,.int .i64 a2),(7,(pP H))]→SH r (blk C 58 [.slice Y a4 a5,.int .i64 z.f1,.int .i64 z.f2,.bool z.f3,.int .i64 z.f4]::blk H 26 [.int .i64 a3.f0,.int .i64 a3.f1]::own2 kp64 (kI .u8) 5 (fun x:S64=>x.f1) 64 Y a4 a5 z.f0::zone Z wz::L) w→c6 U w:=by
    intro ht U w J X
    subst ht
    replace G:qG a1 a2 a3 z=some y:=G
    unfold qG at G
    exact hb1 G U w (J.sub _ rfl) X
   refine aE g7 (fun s U w=>FR 68 [] U [(0,(pP C)),(1,.slice A1 n1 c1),(2,.int .i64 a2),(7,(pP H)),(34,.slice A1 n1 c1),(35,.int .i64 (a1.length:Int)),(36,.int .i64 s)]∧SH r (blk C 58 [.slice Y a4 a5,.int .i64 z.f1,.int .i64 z.f2,.bool z.f3,.int .i64 z.f4]::blk H 26 [.int .i64 a3.f0,.int .i64 a3.f1]::own2 kp64 (kI .u8) 5 (fun x:S64=>x.f1) 64 Y a4 a5 z.f0::zone Z wz::L) w) ⟨J.sub _ rfl,X⟩ ?_
   intro k4 h0 h1 G h2 c7 U w hLab
   obtain⟨h3,rfl⟩:∃ q,q=h0:=⟨_,rfl⟩
   replace G:fF a1 a2 z h3=some h1:=G
   unfold fF at G
   try dsimp only at hLab
   obtain⟨J,X⟩:=hLab
   refine nz 1 J rfl fun U J=>wp_seq_k fun k5 h4=>bH J G rfl (fun h5 G=>?_) fun h5 G=>?_
   ·refine wp_skip (h4 _ _ ?_)
    refine wp_seq_k fun k6 h6=>aA fun k7 h7=>ws fun k8 h8=>?_
    obtain⟨I,c8,G⟩:=bnd G
    refine fR gO dI (X.imm 3 ha1 rfl) c8 J (fun U J=>?_) rfl
    obtain⟨cs,hV,h9⟩:=el (X.imm 3 ha1 rfl) c8
    obtain rfl:=hV
    refine kK (cs:=[.int .u64 I.f0,.int .i64 I.f1,.int .i64 I.f2,str I.f3,.float .f64 I.f4]) nG dI (fun j u h=>by rw [gP]; exact h9 _ _ h) J (fun U J=>?_) rfl
    refine iE (cs:=[.int .u64 0,.int .i64 0,.int .i64 0,str [],.float .f64 0]) aJb J X (fun i0 U w X J=>?_) rfl
    refine dH 0 dI J X rfl (fun  U w X J=>?_) rfl
    refine wn (h8 _ _ ?_)
    refine ws fun k9 i1=>kK (ad:=⟨i0,0,none⟩) (cs:=[.int .u64 I.f0,.int .i64 I.f1,.int .i64 I.f2,str I.f3,.float .f64 I.f4]) nG dI (fun j u h=>by rw [jR,Nat.zero_add]; exact X.cell 0 rfl j u h) J (fun U J=>?_) rfl
    refine x_m J rfl fun U J=>?_
    obtain⟨l0,i2,G⟩:=bnd G
    refine x_c aXt J rfl (aB3 i2 X :) fun v U w hR J=>?_
    obtain⟨rfl,X⟩:=hR
    refine nk 1 J rfl fun U J=>i1 _ _ (bH J G rfl (fun i3 G=>?_) fun i3 G=>?_)
    ·refine nz 4 J rfl fun U J=>?_
     replace X:=(SH.optS (aL (x:=z) ((SH.nil_own (d:=k47) (e:=47) X).pk 4 |>.pk 3))).drop 2 |>.drop 2 |>.pk 2 |>.pk 1 |>.pk 2
     cases G
     refine wp_ret ?_
     have ht:=c7 _ rfl
     subst ht
     replace G:=g8
     replace G:some ([],0,0,3,some z)=some y:=G
     cases G
     refine hQ _ _ (lv4 Tryz.results13 J rfl rfl rfl rfl ?_)
     exact⟨Z,wz,none,0,0,rfl,(Sub.refl _ _),X⟩
    refine wp_skip (h7 _ _ ?_)
    refine h6 _ _ (aC ?_)
    refine x_l G J rfl fun l1 _ U J G=>x_m J rfl fun U J=>wpList_nil ?_
    replace X:=X.drop 0
    cases G
    exact⟨_,h2 _ rfl,J.sub _ rfl,X⟩
   cases G
   exact wp_exit (g9 (c7 _ rfl) U w (J.sub _ rfl) X)
  refine aC (kK (ad:=⟨H,0,none⟩) (cs:=[.int .i64 a3.f0,.int .i64 a3.f1]) aP7 aRm (fun j u h=>by rw [jR,Nat.zero_add]; exact X.cell 0 rfl j u h) J (fun U J=>?_) rfl)
  obtain⟨l2,i4,G⟩:=bnd G
  refine x_c aZd J rfl (wG i4 X :) fun v U w hR J=>?_
  obtain⟨rfl,X⟩:=hR
  refine xk 2 J rfl fun U J=>bcG G (fun c4 G=>?_) fun c4 G=>?_
  ·refine xg 4 c4 J rfl rfl fun U J=>xO 2 rfl J rfl fun U J=>jX rfl J (fun U J=>?_) rfl
   refine x_m J rfl fun U J=>wpList_nil ?_
   replace X:=X.pk 3 |>.pk 3 |>.pk 2 |>.pk 3
   exact hj1 true G U w (J.sub _ rfl) X
  refine xg 4 c4 J rfl rfl fun U J=>bcG G (fun c5 G=>?_) fun c5 G=>?_
  ·refine ng 4 c5 J rfl rfl fun U J=>?_
   replace X:=X.pk 3 |>.pk 3 |>.pk 2 |>.pk 3
   exact hj1 true G U w (J.sub _ rfl) X
  refine ng 4 c5 J rfl rfl fun U J=>?_
  replace X:=X.pk 3 |>.pk 3 |>.pk 2 |>.pk 3
  exact hj1 (decide (8<a2)) G U w (J.sub _ rfl) X
end
noncomputable section
set_option linter.unusedSimpArgs false
def rZ (z:((Option S58)×Int)) (C:(List S47)):Option (Bool) :=
  (iM z.1 C 1 (⟨2,2⟩:S26)).bind fun h=>(if (h.2.2.2.1==0)=true then (if ((h.1.length:Int)==10)=true then ((at_ h.1 0).bind fun G=>(if (G.f2==(-9))=true then (if (h.2.1==5)=true then (some (h.2.2.1==3)) else (some false)) else (some false))) else (some false)) else (some false))
def pX (h:((Option S58)×Int)) (z:(List S47)):Option (Bool) :=
  rZ h z
def gZ (z:(List S47)) (h:Int):Option (((List S47)×Int)⊕(((List S47)))) :=
  if (decide (h<10))=true then (chk (z.length+[(⟨0,0,IntKind.i64.wrap (0 - h),[],0⟩:S47)].length≤140737488355328 / 48) (ltt (IntKind.i64.wrap (h+1)) fun C=>(some (.inl (z++[(⟨0,0,IntKind.i64.wrap (0 - h),[],0⟩:S47)],C))))) else (some (.inr (z)))
def uG:Option (Bool) :=
  (vS 65536).bind fun h=>((loop (fun s=>gZ s.1 s.2) ([],0)).bind fun t=>pX h t)
end
section
variable {r:World} {L:List HP} {w:World} {Z:Nat→Prop} {wz:World}
theorem aGi {y} (G:uG=some y) (X:SH r (zone Z wz::L) w) (hG1:Imm Z wz (kI .u32) (some ⟨1,0,none⟩) 16 16 cX) (hG2:Gb Z wz 2 .u64 cO) :
  Ret Tryz.prog 9 #[] w fun v w'=>∃ (Z':Nat→Prop) (wz':World),v=.bool y∧Sub Z wz Z' wz'∧SH r (zone Z' wz'::L) w':=by
 refine enter Tryz.func9 rfl Tryz.ntmps9 [] rfl (by simp) ?_
 intro U J Qf hQ hQn
 unfold uG at G
 refine nz 1 J rfl fun U J=>ws fun e7 c5=>?_
 obtain⟨S,c6,G⟩:=bnd G
 refine x_c aYw J rfl (aC8 c6 X :) fun v U w hR J=>?_
 obtain⟨H,rfl,X⟩:=hR
 refine nk 5 J rfl fun U J=>c5 _ _ (nz 1 J rfl fun U J=>?_)
 refine wp_seq_k fun e8 c7=>nz 1 J rfl fun U J=>aA fun b9 c8=>?_
 have hb1:∀b6,rZ S b6=some y→∀a4 a5 a6 U w,FR 54 [] U [(1,.pointer H),(3,.slice a4 a5 a6)]→SH r (qS (obj58) H S.1::own k47 47 a4 a5 a6 b6::zone Z wz::L) w→b9 U w:=by
  intro b6 G a4 a5 a6 U w J X
  unfold rZ at G
  refine c8 _ _ (c7 _ _ ?_)
  refine ws fun e9 c9=>xk 2 J rfl fun U J=>x_v (v:=.agg #[.int .i64 2,.int .i64 2]) J (rG (ps:=#[(0,.int .i64 2),(1,.int .i64 2)]) rfl (tY J rfl) (fun w=>by kernel_rfl)) rfl fun U J=>?_
  replace X:=X.pk 2 |>.pk 2
  obtain⟨f2,f3,X,c0,h⟩:=SH.freeze (n:=a5) (c:=a6) (A:=a4) X
  replace X:=X.pk 1
  obtain⟨f4,d0,G⟩:=bnd G
  refine x_c aV2 J rfl (xC d0 X c0 (Imm.sub hG1 h) (Gb.sub hG2 h) :) fun v U w hR J=>?_
  obtain⟨Y,a0,f5,f6,f7,rfl,I,X⟩:=hR
  have f8:=Imm.sub c0 I
  refine nk 9 J rfl fun U J=>c9 _ _ (ws fun f9 a1=>?_)
  refine xk 3 J rfl fun U J=>bcG G (fun a2 G=>?_) fun a2 G=>?_
  ·refine xg 1 a2 J rfl rfl fun U J=>aM a2 J ?_ rfl
   refine bC gO (X.rd 0 rfl).2.1 J (fun U J=>?_) rfl
   refine xg 3 a2 J rfl rfl fun U J=>bcG G (fun z G=>?_) fun z G=>?_
   ·refine xg 1 z J rfl rfl fun U J=>aM z J ?_ rfl
    obtain⟨g0,c3,G⟩:=bnd G
    refine fR gO dI (X.rd 0 rfl) c3 J (fun U J=>?_) rfl
    refine aM z J ?_ rfl
    refine aVd (m:=(0:Int).toNat * 5) mP J (fun U J=>?_) rfl rfl rfl rfl rfl
    refine aM z J ?_ rfl
    obtain⟨cs,hV,d1⟩:=el (X.rd 0 rfl) c3
    obtain rfl:=hV
    refine aK uu2 (d1 2 _ rfl) J (fun U J=>?_) rfl
    refine xg 3 z J rfl rfl fun U J=>bcG G (fun b7 G=>?_) fun b7 G=>?_
    ·refine xg 4 b7 J rfl rfl fun U J=>bcG G (fun b8 G=>?_) fun b8 G=>?_
     ·refine ng 4 b8 J rfl rfl fun U J=>?_
      replace X:=X.drop 0 |>.drop 0
      cases G
      refine a1 _ _ (wp_ret ?_)
      refine hQ _ _ (lv Tryz.results9 J rfl ?_)
      exact⟨Y,a0,rfl,(Sub.trans h I),X⟩
     refine ng 4 b8 J rfl rfl fun U J=>?_
     replace X:=X.drop 0 |>.drop 0
     cases G
     refine a1 _ _ (wp_ret ?_)
     refine hQ _ _ (lv Tryz.results9 J rfl ?_)
     exact⟨Y,a0,rfl,(Sub.trans h I),X⟩
    refine xg 4 b7 J rfl rfl fun U J=>xO 2 rfl J rfl fun U J=>cA rfl J (fun U J=>?_) rfl
    refine x_m J rfl fun U J=>wn (a1 _ _ ?_)
    replace X:=X.drop 0 |>.drop 0
    cases G
    refine wp_ret (hQ _ _ ?_)
    exact lv Tryz.results9 J rfl ⟨Y,a0,rfl,(Sub.trans h I),X⟩
   refine xg 7 z J rfl rfl fun U J=>xO 2 rfl J rfl fun U J=>cA rfl J (fun U J=>?_) rfl
   refine x_m J rfl fun U J=>xO 2 rfl J rfl fun U J=>cA rfl J (fun U J=>?_) rfl
   refine x_m J rfl fun U J=>wn (a1 _ _ ?_)
   replace X:=X.drop 0 |>.drop 0
   cases G
   refine wp_ret (hQ _ _ ?_)
   exact lv Tryz.results9 J rfl ⟨Y,a0,rfl,(Sub.trans h I),X⟩
  refine xg 5 a2 J rfl rfl fun U J=>xO 5 rfl J rfl fun U J=>cA rfl J (fun U J=>?_) rfl
  refine x_m J rfl fun U J=>xO 2 rfl J rfl fun U J=>cA rfl J (fun U J=>?_) rfl
  refine x_m J rfl fun U J=>xO 2 rfl J rfl fun U J=>cA rfl J (fun U J=>?_) rfl
  refine x_m J rfl fun U J=>wn (a1 _ _ ?_)
  replace X:=X.drop 0 |>.drop 0
  cases G
  refine wp_ret (hQ _ _ ?_)
  exact lv Tryz.results9 J rfl ⟨Y,a0,rfl,(Sub.trans h I),X⟩
 obtain⟨d2,d3,G⟩:=bnd G
 have d4:∀a3,(a3)=d2→∀a7 a8 a9 U w,FR 54 [] U [(1,.pointer H),(3,.slice a7 a8 a9)]→SH r (qS (obj58) H S.1::own k47 47 a7 a8 a9 a3::zone Z wz::L) w→b9 U w:=by
  intro a3 ht a7 a8 a9 U w J X
  subst ht
  replace G:pX S a3=some y:=G
  unfold pX at G
  exact hb1 a3 G a7 a8 a9 U w (J.sub _ rfl) X
 replace X:=(SH.nil_own (d:=k47) (e:=47) X).pk 2 |>.pk 1 |>.pk 2
 refine aE d3 (fun s U w=>∃b3 b4 b5,FR 54 [] U [(1,.pointer H),(3,.slice b3 b4 b5),(4,.int .i64 s.2)]∧SH r (qS (obj58) H S.1::own k47 47 b3 b4 b5 s.1::zone Z wz::L) w) ⟨none,0,0,J.sub _ rfl,X⟩ ?_
 intro g1 d5 d6 G d7 d8 U w hLab
 obtain⟨c4,C⟩:=d5
 replace G:gZ c4 C=some d6:=G
 unfold gZ at G
 try dsimp only at hLab
 obtain⟨b3,b4,b5,J,X⟩:=hLab
 refine wp_seq_k fun g2 d9=>nz 2 J rfl fun U J=>bH J G rfl (fun e0 G=>?_) fun e0 G=>?_
 ·refine wp_skip (d9 _ _ ?_)
  refine wp_seq_k fun g3 e1=>aA fun g4 e2=>aC (xk 2 J rfl fun U J=>?_)
  refine x_v J (aT6 rfl (J.ev rfl)) rfl fun U J=>x_v (v:=.agg #[.int .u64 0,.int .i64 0,.int .i64 (IntKind.i64.wrap (0 - C)),str [],.float .f64 0]) J (rG (ps:=#[(2,.int .i64 (IntKind.i64.wrap (0 - C)))]) rfl (tY J rfl) (fun w=>by kernel_rfl)) rfl fun U J=>iV (d:=k47) (e:=47) (ps:=#[(0,.agg #[.int .u64 0,.int .i64 0,.int .i64 (IntKind.i64.wrap (0 - C)),str [],.float .f64 0])]) (cells:=[.int .u64 0,.int .i64 0,.int .i64 (IntKind.i64.wrap (0 - C)),str [],.float .f64 0]) (xs:=[(⟨0,0,IntKind.i64.wrap (0 - C),[],0⟩:S47)]) (fun w=>by kernel_rfl) rfl ⟨[.int .u64 0,.int .i64 0,.int .i64 (IntKind.i64.wrap (0 - C)),str [],.float .f64 0],_,rfl,rfl,rfl⟩ J X (fun g5 U w X J=>?_) rfl
  obtain⟨e3,G⟩:=aB G
  have hr:=X.rd 0 rfl
  refine iP 2 aJu gO J X hr.1 hr.2.1 e3 rfl (fun e4 e5 e6 U w X J=>?_) rfl
  refine x_m J rfl fun U J=>wpList_nil (e2 _ _ ?_)
  refine e1 _ _ (aC ?_)
  refine x_m J rfl fun U J=>x_l G J rfl fun g6 _ U J G=>x_m J rfl fun U J=>wpList_nil ?_
  replace X:=X.drop 1 |>.pk 2 |>.pk 1 |>.pk 2
  cases G
  exact⟨_,d7 _ rfl,e4,e5,e6,J.sub _ rfl,X⟩
 cases G
 exact wp_exit (d4 c4 (d8 _ rfl) b3 b4 b5 U w (J.sub _ rfl) X)
end
noncomputable section
set_option linter.unusedSimpArgs false
def fU (z:((List S47)×Int×Int×Int×(Option S58))):Option (Bool) :=
  (iW z.2.2.2.2 [114,117,110,46,49] []).bind fun C=>((iW C.2 [114,117,110,103] []).bind fun G=>((jF none).bind fun H=>(if (H.1==5)=true then ((jF G.2).bind fun h=>(if (h.1==0)=true then ((kU h.2).bind fun I=>(some ((I.length:Int)==1))) else (some false))) else (some false))))
def fY (h:((List S47)×Int×Int×Int×(Option S58))) (z:Bool):Option (Bool) :=
  if z=true then (some false) else (fU h)
def eE (a1:Int) (a2:S47) (h:((List S47)×Int×Int×Int×(Option S58))) (z:Bool):Option (Bool) :=
  if z=true then (if (h.2.2.2.1 != 1)=true then (some false) else (fU h)) else ((aB7 a2 a1).bind fun C=>(if (!C)=true then (if (h.2.2.2.1 != 3)=true then (some false) else (fU h)) else (if (h.2.2.2.1 != 0)=true then (fY h true) else (if ((h.1.length:Int) != 1)=true then (fY h true) else (if (h.2.1 != 1)=true then (fY h true) else (fY h (h.2.2.1 != 0)))))))
def fW (a1:Int) (a2:S47) (z:Bool) (h:((List S47)×Int×Int×Int×(Option S58))) (C:Bool):Option (Bool) :=
  if C=true then (some false) else (if (!z)=true then (eE a1 a2 h true) else (if (decide (a1<1))=true then (eE a1 a2 h true) else (eE a1 a2 h (decide (8<a1)))))
def cH (a0:S26) (a1:Int) (a2:S47) (h:Bool):Option (Bool) :=
  (vS 1048576).bind fun C=>((iM none [] a1 a0).bind fun G=>((iM C.1 [a2] a1 a0).bind fun z=>((jA a0).bind fun H=>(if (!(H==h))=true then (fW a1 a2 h z true) else (fW a1 a2 h z (G.2.2.2.1 != 5))))))
def mZ (a0:S26) (a1:Int) (a2:S47):Option (Bool) :=
  (uG).bind fun h=>(if (!h)=true then (some false) else (if (decide (1≤a0.f0))=true then (if (decide (a0.f0≤4096))=true then (if (decide (2≤a0.f1))=true then (cH a0 a1 a2 (decide (a0.f1≤16))) else (cH a0 a1 a2 false)) else (cH a0 a1 a2 false)) else (cH a0 a1 a2 false)))
end
theorem aBe {r:World} {L:List HP} {w:World} {Z:Nat→Prop} {wz:World} (a0:S26) (a1:Int) (a2:S47) {y:(Bool)} (G:mZ a0 a1 a2=some y) (hG1:Imm Z wz (kI .u32) (some ⟨1,0,none⟩) 16 16 cX) (hG2:Gb Z wz 2 .u64 cO) (X:SH r (zone Z wz::L) w) :
  Ret Tryz.prog 6 #[.agg #[.int .i64 a0.f0,.int .i64 a0.f1],.int .i64 a1,.agg #[.int .u64 a2.f0,.int .i64 a2.f1,.int .i64 a2.f2,str a2.f3,.float .f64 a2.f4]] w fun v w'=>∃ (Z':Nat→Prop) (wz':World),v=.bool y∧Sub Z wz Z' wz'∧SH r (zone Z' wz'::L) w':=by
 refine enter Tryz.func6 rfl Tryz.ntmps6 [(0,_),(1,_),(2,_)] rfl (by simp) ?_
 intro U J Qf hQ hQn
 unfold mZ at G
 refine ws fun i0 d4=>oJ J X (fun a7 U w X J=>?_) rfl
 refine oJ J X (fun a3 U w X J=>?_) rfl
 refine x_m J rfl fun U J=>wn (d4 _ _ ?_)
 refine wp_seq_k fun i1 d5=>ws fun i2 d6=>?_
 replace X:=X.pk 2
 obtain⟨i3,d7,G⟩:=bnd G
 refine x_c en9 J rfl (aGi d7 X hG1 hG2 :) fun v U w hR J=>?_
 obtain⟨d1,d2,rfl,C,X⟩:=hR
 refine nk 1 J rfl fun U J=>d6 _ _ (bH J G rfl (fun d8 G=>?_) fun d8 G=>?_)
 ·refine nz 1 J rfl fun U J=>?_
  replace X:=X.drop 1 |>.drop 1
  cases G
  refine wp_ret (hQ _ _ ?_)
  exact lv Tryz.results6 J rfl ⟨d1,d2,rfl,C,X⟩
 refine wp_skip (d5 _ _ ?_)
 refine wp_seq_k fun d9 e0=>?_
 have hj1:∀a8,cH a0 a1 a2 a8=some y→∀U w,FR 121 [] U [(1,.int .i64 a1),(3,(pP a7)),(5,(pP a3)),(7,.bool a8)]→SH r (blk a7 26 [.int .i64 a0.f0,.int .i64 a0.f1]::blk a3 47 [.int .u64 a2.f0,.int .i64 a2.f1,.int .i64 a2.f2,str a2.f3,.float .f64 a2.f4]::zone d1 d2::L) w→d9 U w:=by
  intro a8 G U w J X
  unfold cH at G
  refine e0 _ _ (ws fun i4 e1=>?_)
  obtain⟨i5,e2,G⟩:=bnd G
  refine x_c aYw J rfl (aC8 e2 X :) fun v U w hR J=>?_
  obtain⟨a4,rfl,X⟩:=hR
  refine nk 5 J rfl fun U J=>e1 _ _ (ws fun i6 e3=>?_)
  refine xk 1 J rfl fun U J=>kK (ad:=⟨a7,0,none⟩) (cs:=[.int .i64 a0.f0,.int .i64 a0.f1]) aP7 aRm (fun j u h=>by rw [jR,Nat.zero_add]; exact X.cell 1 rfl j u h) J (fun U J=>?_) rfl
  replace X:=(SH.optN (obj58) X).pk 4 |>.pk 1
  obtain⟨e4,e5,G⟩:=bnd G
  refine x_c aV2 J rfl (xC e5 X Imm.nil (Imm.sub hG1 C) (Gb.sub hG2 C) :) fun v U w hR J=>?_
  obtain⟨i7,i8,i9,j0,j1,rfl,S,X⟩:=hR
  refine nk 9 J rfl fun U J=>e3 _ _ (ws fun j2 e6=>?_)
  refine xk 1 J rfl fun U J=>kK (ad:=⟨a3,0,none⟩) (cs:=[.int .u64 a2.f0,.int .i64 a2.f1,.int .i64 a2.f2,str a2.f3,.float .f64 a2.f4]) nG dI (fun j u h=>by rw [jR,Nat.zero_add]; exact X.cell 5 rfl j u h) J (fun U J=>?_) rfl
  refine iV (d:=k47) (e:=47) (ps:=#[(0,.agg #[.int .u64 a2.f0,.int .i64 a2.f1,.int .i64 a2.f2,str a2.f3,.float .f64 a2.f4])]) (cells:=[.int .u64 a2.f0,.int .i64 a2.f1,.int .i64 a2.f2,str a2.f3,.float .f64 a2.f4]) (xs:=[a2]) (fun w=>by kernel_rfl) rfl ⟨[.int .u64 a2.f0,.int .i64 a2.f1,.int .i64 a2.f2,str a2.f3,.float .f64 a2.f4],_,rfl,rfl,rfl⟩ J X (fun e7 U w X J=>?_) rfl
  refine x_m J rfl fun U J=>kK (ad:=⟨a7,0,none⟩) (cs:=[.int .i64 a0.f0,.int .i64 a0.f1]) aP7 aRm (fun j u h=>by rw [jR,Nat.zero_add]; exact X.cell 5 rfl j u h) J (fun U J=>?_) rfl
  replace X:=X.pk 3 |>.pk 1
  obtain⟨j3,j4,X,d3,Y⟩:=SH.freeze (n:=1) (c:=1) (A:=(some ⟨e7,0,none⟩)) X
  replace X:=X.pk 3
  obtain⟨z,e8,G⟩:=bnd G
  refine x_c aV2 J rfl (xC e8 X d3 (Imm.sub hG1 (Sub.trans (Sub.trans C S) Y)) (Gb.sub hG2 (Sub.trans (Sub.trans C S) Y)) :) fun v U w hR J=>?_
  obtain⟨H,I,b7,b8,b9,rfl,a5,X⟩:=hR
  have j5:=Imm.sub d3 a5
  refine nk 9 J rfl fun U J=>e6 _ _ (wp_seq_k fun j6 e9=>?_)
  refine wp_seq_k fun f5 f6=>?_
  have hj2:∀c0,fW a1 a2 a8 z c0=some y→∀U w,FR 121 [] U [(1,.int .i64 a1),(5,(pP a3)),(7,.bool a8),(8,.pointer a4),(14,.slice b7 b8 b9),(15,.int .i64 z.2.1),(16,.int .i64 z.2.2.1),(17,.int .i64 z.2.2.2.1),(68,.bool c0)]→SH r (blk a3 47 [.int .u64 a2.f0,.int .i64 a2.f1,.int .i64 a2.f2,str a2.f3,.float .f64 a2.f4]::qS (obj58) a4 z.2.2.2.2::own k47 47 b7 b8 b9 z.1::zone H I::L) w→f5 U w:=by
   intro c0 G U w J X
   unfold fW at G
   refine f6 _ _ (bH J G rfl (fun f7 G=>?_) fun f7 G=>?_)
   ·refine nz 1 J rfl fun U J=>?_
    replace X:=X.drop 0 |>.drop 0 |>.drop 0
    cases G
    refine wp_ret (hQ _ _ ?_)
    exact lv Tryz.results6 J rfl ⟨H,I,rfl,(Sub.trans (Sub.trans (Sub.trans C S) Y) a5),X⟩
   refine wp_skip (e9 _ _ ?_)
   refine wp_seq_k fun j7 f8=>aA fun f9 g0=>?_
   have hb1:fU z=some y→∀U w,FR 121 [] U [(8,.pointer a4)]→SH r (qS (obj58) a4 z.2.2.2.2::zone H I::L) w→f9 U w:=by
    intro G U w J X
    unfold fU at G
    refine g0 _ _ (f8 _ _ ?_)
    refine ws fun j8 g1=>xk 1 J rfl fun U J=>?_
    obtain⟨j9,g2,G⟩:=bnd G
    refine x_c aVt J rfl (pK g2 X RdL.nil :) fun v U w hR J=>?_
    obtain⟨rfl,X⟩:=hR
    refine wn (g1 _ _ ?_)
    refine ws fun k0 g3=>xk 1 J rfl fun U J=>?_
    obtain⟨k1,g4,G⟩:=bnd G
    refine x_c aVt J rfl (pK g4 X RdL.nil :) fun v U w hR J=>?_
    obtain⟨rfl,X⟩:=hR
    refine wn (g3 _ _ ?_)
    refine ws fun k2 c3=>?_
    replace X:=SH.optN (obj58) X
    obtain⟨k3,g5,G⟩:=bnd G
    refine x_c aRn J rfl (sW g5 X :) fun v U w hR J=>?_
    obtain⟨rfl,X⟩:=hR
    refine xk 2 J rfl fun U J=>bcG G (fun a9 G=>?_) fun a9 G=>?_
    ·refine xg 1 a9 J rfl rfl fun U J=>aM a9 J ?_ rfl
     replace X:=X.pk 1
     obtain⟨k4,g6,G⟩:=bnd G
     refine x_c aRn J rfl (sW g6 X :) fun v U w hR J=>?_
     obtain⟨rfl,X⟩:=hR
     refine xg 3 a9 J rfl rfl fun U J=>bcG G (fun a6 G=>?_) fun a6 G=>?_
     ·refine xg 1 a6 J rfl rfl fun U J=>aM a6 J ?_ rfl
      obtain⟨k5,g7,G⟩:=bnd G
      refine x_c aYh J rfl (wO g7 X :) fun v U w hR J=>?_
      obtain⟨k6,k7,k8,rfl,X⟩:=hR
      refine aM a6 J ?_ rfl
      refine bC lL (X.rd 0 rfl).2.1 J (fun U J=>?_) rfl
      refine ng 3 a6 J rfl rfl fun U J=>?_
      replace X:=X.drop 0 |>.drop 0 |>.drop 0
      cases G
      refine c3 _ _ (wp_ret ?_)
      refine hQ _ _ (lv Tryz.results6 J rfl ?_)
      exact⟨H,I,rfl,(Sub.trans (Sub.trans (Sub.trans C S) Y) a5),X⟩
     refine ng 6 a6 J rfl rfl fun U J=>?_
     replace X:=X.drop 0 |>.drop 0
     cases G
     refine c3 _ _ (wp_ret ?_)
     refine hQ _ _ (lv Tryz.results6 J rfl ?_)
     exact⟨H,I,rfl,(Sub.trans (Sub.trans (Sub.trans C S) Y) a5),X⟩
    refine xg 5 a9 J rfl rfl fun U J=>xO 4 rfl J rfl fun U J=>cA rfl J (fun U J=>?_) rfl
    refine x_m J rfl fun U J=>wn (c3 _ _ ?_)
    replace X:=X.drop 0 |>.drop 0
    cases G
    refine wp_ret (hQ _ _ ?_)
    exact lv Tryz.results6 J rfl ⟨H,I,rfl,(Sub.trans (Sub.trans (Sub.trans C S) Y) a5),X⟩
   refine wp_seq_k fun g8 g9=>?_
   have hj3:∀c4,eE a1 a2 z c4=some y→∀U w,FR 121 [] U [(1,.int .i64 a1),(5,(pP a3)),(8,.pointer a4),(14,.slice b7 b8 b9),(15,.int .i64 z.2.1),(16,.int .i64 z.2.2.1),(17,.int .i64 z.2.2.2.1),(84,.bool c4)]→SH r (blk a3 47 [.int .u64 a2.f0,.int .i64 a2.f1,.int .i64 a2.f2,str a2.f3,.float .f64 a2.f4]::qS (obj58) a4 z.2.2.2.2::own k47 47 b7 b8 b9 z.1::zone H I::L) w→g8 U w:=by
    intro c4 G U w J X
    unfold eE at G
    refine g9 _ _ (bH J G rfl (fun h0 G=>?_) fun h0 G=>?_)
    ·refine nz 2 J rfl fun U J=>bH J G rfl (fun h1 G=>?_) fun h1 G=>?_
     ·refine nz 1 J rfl fun U J=>?_
      replace X:=X.drop 0 |>.drop 0 |>.drop 0
      cases G
      refine wp_ret (hQ _ _ ?_)
      exact lv Tryz.results6 J rfl ⟨H,I,rfl,(Sub.trans (Sub.trans (Sub.trans C S) Y) a5),X⟩
     replace X:=X.drop 0 |>.drop 1
     exact wp_skip (hb1 G U w (J.sub _ rfl) X)
    refine ws fun k9 h2=>kK (ad:=⟨a3,0,none⟩) (cs:=[.int .u64 a2.f0,.int .i64 a2.f1,.int .i64 a2.f2,str a2.f3,.float .f64 a2.f4]) nG dI (fun j u h=>by rw [jR,Nat.zero_add]; exact X.cell 0 rfl j u h) J (fun U J=>?_) rfl
    refine x_m J rfl fun U J=>?_
    obtain⟨l0,h3,G⟩:=bnd G
    refine x_c bBp J rfl (aLh h3 X :) fun v U w hR J=>?_
    obtain⟨rfl,X⟩:=hR
    refine nk 2 J rfl fun U J=>h2 _ _ (bH J G rfl (fun h4 G=>?_) fun h4 G=>?_)
    ·refine nz 2 J rfl fun U J=>bH J G rfl (fun h5 G=>?_) fun h5 G=>?_
     ·refine nz 1 J rfl fun U J=>?_
      replace X:=X.drop 0 |>.drop 0 |>.drop 0
      cases G
      refine wp_ret (hQ _ _ ?_)
      exact lv Tryz.results6 J rfl ⟨H,I,rfl,(Sub.trans (Sub.trans (Sub.trans C S) Y) a5),X⟩
     replace X:=X.drop 0 |>.drop 1
     exact wp_skip (hb1 G U w (J.sub _ rfl) X)
    refine wp_seq_k fun h6 h7=>?_
    have hj4:∀c5,fY z c5=some y→∀U w,FR 121 [] U [(8,.pointer a4),(83,.bool c5)]→SH r (qS (obj58) a4 z.2.2.2.2::zone H I::L) w→h6 U w:=by
     intro c5 G U w J X
     unfold fY at G
     refine h7 _ _ (bH J G rfl (fun h8 G=>?_) fun h8 G=>?_)
     ·refine nz 1 J rfl fun U J=>?_
      replace X:=X.drop 0
      cases G
      refine wp_ret (hQ _ _ ?_)
      exact lv Tryz.results6 J rfl ⟨H,I,rfl,(Sub.trans (Sub.trans (Sub.trans C S) Y) a5),X⟩
     exact wp_skip (hb1 G U w (J.sub _ rfl) X)
    refine aC (xk 3 J rfl fun U J=>?_)
    refine bcG G (fun b3 G=>?_) fun b3 G=>?_
    ·refine xg 5 b3 J rfl rfl fun U J=>xO 2 rfl J rfl fun U J=>jX rfl J (fun U J=>?_) rfl
     refine x_m J rfl fun U J=>xO 2 rfl J rfl fun U J=>jX rfl J (fun U J=>?_) rfl
     refine wpList_nil ?_
     replace X:=X.drop 0 |>.drop 1
     exact hj4 true G U w (J.sub _ rfl) X
    refine xg 1 b3 J rfl rfl fun U J=>aM b3 J ?_ rfl
    refine bC gO (X.rd 2 rfl).2.1 J (fun U J=>?_) rfl
    refine xg 3 b3 J rfl rfl fun U J=>bcG G (fun c6 G=>?_) fun c6 G=>?_
    ·refine xg 4 c6 J rfl rfl fun U J=>xO 2 rfl J rfl fun U J=>jX rfl J (fun U J=>?_) rfl
     refine wpList_nil ?_
     replace X:=X.drop 0 |>.drop 1
     exact hj4 true G U w (J.sub _ rfl) X
    refine xg 4 c6 J rfl rfl fun U J=>bcG G (fun c7 G=>?_) fun c7 G=>?_
    ·refine ng 3 c7 J rfl rfl fun U J=>?_
     replace X:=X.drop 0 |>.drop 1
     exact hj4 true G U w (J.sub _ rfl) X
    refine ng 3 c7 J rfl rfl fun U J=>?_
    replace X:=X.drop 0 |>.drop 1
    exact hj4 (z.2.2.1 != 0) G U w (J.sub _ rfl) X
   refine aC (xk 3 J rfl fun U J=>?_)
   refine bcG G (fun c8 G=>?_) fun c8 G=>?_
   ·refine xg 4 c8 J rfl rfl fun U J=>xO 2 rfl J rfl fun U J=>jX rfl J (fun U J=>?_) rfl
    exact x_m J rfl fun U J=>wpList_nil (hj3 true G U w (J.sub _ rfl) X)
   refine xg 4 c8 J rfl rfl fun U J=>bcG G (fun c9 G=>?_) fun c9 G=>?_
   ·exact ng 4 c9 J rfl rfl fun U J=>hj3 true G U w (J.sub _ rfl) X
   exact ng 4 c9 J rfl rfl fun U J=>hj3 (decide (8<a1)) G U w (J.sub _ rfl) X
  refine aC (kK (ad:=⟨a7,0,none⟩) (cs:=[.int .i64 a0.f0,.int .i64 a0.f1]) aP7 aRm (fun j u h=>by rw [jR,Nat.zero_add]; exact X.cell 5 rfl j u h) J (fun U J=>?_) rfl)
  obtain⟨l1,h9,G⟩:=bnd G
  refine x_c aZd J rfl (wG h9 X :) fun v U w hR J=>?_
  obtain⟨rfl,X⟩:=hR
  refine x_m J rfl fun U J=>x_v J (aW7 uu4 rfl (J.ev rfl) (J.ev rfl)) rfl fun U J=>x_m J rfl fun U J=>bcG G (fun d0 G=>?_) fun d0 G=>?_
  ·refine ng 3 d0 J rfl rfl fun U J=>?_
   replace X:=X.drop 3 |>.drop 3 |>.drop 3 |>.pk 2 |>.pk 1 |>.pk 2 |>.pk 3
   exact hj2 true G U w (J.sub _ rfl) X
  refine ng 3 d0 J rfl rfl fun U J=>?_
  replace X:=X.drop 3 |>.drop 3 |>.drop 3 |>.pk 2 |>.pk 1 |>.pk 2 |>.pk 3
  exact hj2 (e4.2.2.2.1 != 5) G U w (J.sub _ rfl) X
 refine aC (aT aEj J (fun U J=>?_) rfl)
 refine aK uu3 (X.cell 2 rfl 0 _ rfl) J (fun U J=>?_) rfl
 refine xk 2 J rfl fun U J=>bcG G (fun b4 G=>?_) fun b4 G=>?_
 ·refine aM b4 J ?_ rfl
  refine aT aEj J (fun U J=>?_) rfl
  refine aM b4 J ?_ rfl
  refine aK uu3 (X.cell 2 rfl 0 _ rfl) J (fun U J=>?_) rfl
  refine xg 3 b4 J rfl rfl fun U J=>bcG G (fun b5 G=>?_) fun b5 G=>?_
  ·refine aM b5 J ?_ rfl
   refine aT aFy J (fun U J=>?_) rfl
   refine aM b5 J ?_ rfl
   refine aK uu3 (X.cell 2 rfl 1 _ rfl) J (fun U J=>?_) rfl
   refine xg 3 b5 J rfl rfl fun U J=>bcG G (fun b6 G=>?_) fun b6 G=>?_
   ·refine aM b6 J ?_ rfl
    refine aT aFy J (fun U J=>?_) rfl
    refine aM b6 J ?_ rfl
    refine aK uu3 (X.cell 2 rfl 1 _ rfl) J (fun U J=>?_) rfl
    refine ng 3 b6 J rfl rfl fun U J=>?_
    replace X:=X.pk 1 |>.pk 2
    exact hj1 (decide (a0.f1≤16)) G U w (J.sub _ rfl) X
   refine ng 5 b6 J rfl rfl fun U J=>?_
   replace X:=X.pk 1 |>.pk 2
   exact hj1 false G U w (J.sub _ rfl) X
  refine xg 5 b5 J rfl rfl fun U J=>xO 3 rfl J rfl fun U J=>cA rfl J (fun U J=>?_) rfl
  refine x_m J rfl fun U J=>wpList_nil ?_
  replace X:=X.pk 1 |>.pk 2
  exact hj1 false G U w (J.sub _ rfl) X
 refine xg 5 b4 J rfl rfl fun U J=>xO 3 rfl J rfl fun U J=>cA rfl J (fun U J=>?_) rfl
 refine x_m J rfl fun U J=>xO 3 rfl J rfl fun U J=>cA rfl J (fun U J=>?_) rfl
 refine x_m J rfl fun U J=>wpList_nil ?_
 replace X:=X.pk 1 |>.pk 2
 exact hj1 false G U w (J.sub _ rfl) X
end Go.Proofs.YtnefioccdkmegaaGreatDoor.M
namespace Go.Proofs.YtnefioccdkmegaaGreatDoor.sorterErrs
open Go Go.RowKit Go.ChangeShapes Go.WideShapes Go.ChangeAt Go.Proofs.YtnefioccdkmegaaGreatDoor.E Go.Proofs.YtnefioccdkmegaaGreatDoor.M
set_option linter.unusedVariables false
theorem own:ownKnob Tryz.prog.godebug=none:=by kernel_rfl
theorem aH3:laidOutB Tryz.prog=true:=by kernel_rfl
theorem gN1 : Tryz.prog.globalNamed "headrace/page.table" = some 1 := by kernel_rfl
theorem gT1:(Tryz.prog.globals[1]?).map (·.type)=some 174:=by kernel_rfl
theorem gN2 : Tryz.prog.globalNamed "internal/strconv.uint64pow10" = some 2 := by kernel_rfl
theorem gT2:(Tryz.prog.globals[2]?).map (·.type)=some 182:=by kernel_rfl
theorem aQg (os:Os) (args:Array Value):laidMetH Tryz.prog Rows.sorterErrsRow.laid ((World.doorLaid Tryz.prog 400 os).forCall (fun _ _=>0) ⟨#[],args,[]⟩).memory :=
  laidMetH_of_parts3 (fuel:=8) (laidMet_of_run' 8 (by kernel_rfl) (by kernel_rfl)) (by kernel_rfl) (by kernel_rfl)
theorem aP2 {W:World} (h:laidMetH Tryz.prog Rows.sorterErrsRow.laid W):Imm (aE5 W) W (kI .u32) (some ⟨1,0,none⟩) 16 16 M.cX:=by
  rw [MakeChecks.laidMetH_plain _ _ _ (by kernel_rfl)] at h
  replace h := h.filter (fun x => x.1 == "headrace/page.table")
  exact aS5 gN1 gT1 Tryz.underlying174 Tryz.underlying146 aYv rfl (by decide) h
theorem aRf {W:World} (h:laidMetH Tryz.prog Rows.sorterErrsRow.laid W):Gb (aE5 W) W 2 .u64 M.cO:=by
  rw [MakeChecks.laidMetH_plain _ _ _ (by kernel_rfl)] at h
  replace h := h.filter (fun x => x.1 == "internal/strconv.uint64pow10")
  exact aWk gN2 gT2 Tryz.underlying182 Tryz.underlying44 aXf (by kernel_rfl) h
def aV5:Prop:=∀ (a0:M.S26) (a1:Int) (a2:M.S47),M.g26 a0→(gI .i64) a1→M.g47 a2→M.mZ a0 a1 a2=some true
set_option maxRecDepth 100000 in
theorem aWq (hP:aV5) (os:Os) (started:os.Started) (H:Type) (enc:TypeId×Value→H) :
    ReturnsInHanded {} Tryz.checked os 6 .any (fun w args=>(Rows.sorterErrsSpec.pre enc Tryz.prog Tryz.f6 [] false w args∧laidMetH Tryz.prog Rows.sorterErrsRow.laid w)∧sizedMet enc Tryz.prog Tryz.f6 (OpenSpec.ofChange Rows.sorterErrsSpec) false w args)
      (Rows.sorterErrsSpec.post enc Tryz.prog Tryz.f6 false true false false):=by
  refine returnsInHanded_of_change_and (C:=Tryz.checked) (X:=fun w _=>laidMetH Tryz.prog Rows.sorterErrsRow.laid w) (fun _ _ _ hh h=>h.of_heap hh) own started (by kernel_rfl) Tryz.func6
    (ChangeSpec.witness_shaped (enc:=enc) (C:=Tryz.checked) (os:=os) (X:=fun w _=>laidMetH Tryz.prog Rows.sorterErrsRow.laid w) false (World.doorLaid Tryz.prog 400 os) #[.agg #[.int .i64 0,.int .i64 0],.int .i64 0,.agg #[.int .u64 0,.int .i64 0,.int .i64 0,.string ByteArray.empty,.float .f64 0]] 8 rfl (World.shaped_of_RefB (by kernel_rfl) (by kernel_rfl)) (by kernel_rfl) (by kernel_rfl) (by kernel_rfl) (aQg os _)) ?_
  intro W base args ds gs before hval0 hW hcnd hsz0 hL _
  have hsz:(DataW.weightsEach Tryz.prog (Tryz.f6.params.toList++Rows.sorterErrsSpec.plain.varTypes Tryz.prog) (ds++gs)).all (· ≤ reachBytes)=true:=hsz0
  have hval:∀ (j:Nat) t v,Tryz.f6.params[j]?=some t→args[j]?=some v→Value.okWide Tryz.prog W .any base t v:=hval0
  have hW':=hW
  obtain⟨p,q,hA0,hV,rfl,hfz,hnd⟩:=hW
  have hA:DataW.TrodAll enc Tryz.prog W 0 (fun _=>true) true Tryz.f6.params.toList args.toList ds p:=hA0
  rw [Tryz.params6] at hA hval hsz
  obtain⟨v0,vs0,d0,ds0,p0,q0,hargs,rfl,rfl,h0,r0⟩:=trodAll_cons hA
  obtain⟨v1,vs1,d1,ds1,p1,q1,rfl,rfl,rfl,h1,r1⟩:=trodAll_cons r0
  obtain⟨v2,vs2,d2,ds2,p2,q2,rfl,rfl,rfl,h2,r2⟩:=trodAll_cons r1
  obtain⟨rfl,rfl,rfl⟩:=trodAll_nil r2
  obtain rfl:args=#[v0,v1,v2]:=by cases args; simp_all
  obtain⟨rfl,rfl⟩:=trodVars_none hV
  have k0:=h0
  have lt0:∀ x∈p0,x.block<W.heap.size:=by obtain⟨m,hm⟩:=k0; exact DataW.trod_lt m _ _ _ hm
  obtain⟨x0,hx0,g0⟩:=Opens.arg op26 h0 (Wt.of hsz (j:=0) rfl rfl)
  obtain⟨⟨u0⟩,rfl,_⟩:=okWide_struct Tryz.underlying26 (hval 0 26 v0 rfl rfl)
  cases (show u0=[.int .i64 x0.f0,.int .i64 x0.f1] from hx0)
  have k1:=h1
  have lt1:∀ x∈p1,x.block<W.heap.size:=by obtain⟨m,hm⟩:=k1; exact DataW.trod_lt m _ _ _ hm
  obtain⟨x1,hx1,g1⟩:=Opens.arg (opI Tryz.underlying3) h1 (Wt.of hsz (j:=1) rfl rfl)
  obtain⟨u1,rfl⟩:=okWide_int Tryz.underlying3 (hval 1 3 v1 rfl rfl)
  cases (show [Value.int .i64 u1]=[Value.int .i64 x1] from hx1)
  have k2:=h2
  have lt2:∀ x∈p2,x.block<W.heap.size:=by obtain⟨m,hm⟩:=k2; exact DataW.trod_lt m _ _ _ hm
  obtain⟨x2,hx2,g2⟩:=Opens.arg op47 h2 (Wt.of hsz (j:=2) rfl rfl)
  obtain⟨⟨u2⟩,rfl,_⟩:=okWide_struct Tryz.underlying47 (hval 2 47 v2 rfl rfl)
  cases (show u2=[.int .u64 x2.f0,.int .i64 x2.f1,.int .i64 x2.f2,str x2.f3,.float .f64 x2.f4] from hx2)
  clear hA0 hval0 hsz0 hsz
  refine Calls.mono (M.aBe (Z:=aE5 W) (wz:=W) x0 x1 x2 (hP x0 x1 x2 g0 g1 g2) (aP2 hL) (aRf hL) (L:=[]) (SH.start W)) ?_
  rintro e W' ⟨v,rfl,Z',wz',rfl,hs,hS⟩
  have bel:=SH.below hS hs
  exact⟨_,rfl,_,_,_,[],_,[],hW',trodAll_mk1 (shut_bool Tryz.underlying4 _),(trodAll_cons_mk (Below.trod aH3 (by kernel_rfl) (of_decide_eq_true (by kernel_rfl)) k0 bel lt0) (trodAll_cons_mk (Below.trod aH3 (by kernel_rfl) (of_decide_eq_true (by kernel_rfl)) k1 bel lt1) (trodAll_cons_mk (Below.trod aH3 (by kernel_rfl) (of_decide_eq_true (by kernel_rfl)) k2 bel lt2) trodAll_mk0))),rfl,bel.frame _,fun h=>by cases h⟩
theorem bAt (hP:aV5):Rows.sorterErrsRow.holds Tryz.pinned (OpenSpec.ofChange Rows.sorterErrsSpec) :=
  OpenClaim.holds_of_wide 6 Tryz.f6 rfl rfl rfl rfl rfl rfl rfl ⟨rfl,rfl,rfl,rfl,rfl⟩ rfl rfl rfl rfl rfl (by kernel_rfl) Tryz.func6 (by kernel_rfl)
    (of_decide_eq_true (by kernel_rfl)) (by unfold Func.isWrapper; first | (rw [if_pos (by decide +kernel)]; kernel_rfl) | (rw [if_neg (by decide +kernel)]; exact⟨rfl,rfl⟩))
    (fun os started H enc _=>aWq hP os started H enc)
def hrn:Bool×String:=Rows.sorterErrsCard.stood.harness
theorem card (hP:aV5):Rows.SorterErrsCardSaid :=
  Claim7.holds_tied_plain_at .later [] [.data,.data,.data,.data] true hrn true
    (bAt hP) (fun _ h=>by cases h) (by kernel_rfl) (fun _ h=>by cases h) sorterErrs_row_tie rfl ⟨rfl,rfl⟩ (by kernel_rfl) rfl
    (fun f fn hf hfn=>by
      obtain rfl : f = 6 := Option.some.inj ((show Tryz.prog.funcNamed "headrace/headracelaw10.SorterErrs" = some 6 by kernel_rfl).symm.trans hf) |>.symm
      obtain rfl:fn=Tryz.f6:=(Option.some.inj (Tryz.func6.symm.trans hfn)).symm
      exact⟨by kernel_rfl,fun j t ht=>by
        rw [Tryz.params6] at ht
        have hm:t∈[26,3,47]:=by simpa using Array.mem_of_getElem? ht
        have hall:([26,3,47].all fun u => !Tryz.prog.wantsStandIn u)=true:=by kernel_rfl
        exact (show Tryz.prog.wantsStandIn t=false by simpa using List.all_eq_true.1 hall t hm)⟩)
    (by kernel_rfl)
end Go.Proofs.YtnefioccdkmegaaGreatDoor.sorterErrs
namespace Go.Proofs.YtnefioccdkmegaaGreatDoor.P
open Go Go.RowKit Go.Proofs.YtnefioccdkmegaaGreatDoor.E Go.Proofs.YtnefioccdkmegaaGreatDoor.M
set_option linter.unusedVariables false
set_option linter.unusedSectionVars false
theorem aLg {α:Type} (xs:List α) (n:Nat):at_ xs (n:Int)=xs[n]?:=by simp [at_]
theorem aI {α:Type} {xs:List α} {i:Int} {n:Nat} {x:α} (hi:i=n) (h:xs[n]?=some x):at_ xs i=some x:=by subst hi; rw [aLg,h]
theorem wV {α:Type} {xs:List α} {l u:Nat} (h:l≤u) (hu:u≤xs.length):pA xs (l:Int) (u:Int)=some ((xs.take u).drop l):=by
 unfold pA; rw [if_pos (by omega)]; simp
theorem bG {α:Type} {p:Prop} [Decidable p] {x:Option α} (h:p):chk p x=x:=if_pos h
theorem w64 {n:Int} (h : -9223372036854775808≤n) (h':n≤9223372036854775807):IntKind.i64.wrap n=n:=IntWalk.i64_in n ⟨h,h'⟩
theorem aBf {n:Int} (h:0≤n) (h':n<18446744073709551616):IntKind.u64.wrap n=n:=IntWalk.u64_in n ⟨h,by omega⟩
theorem u8w {n:Int} (h:0≤n) (h':n<256):IntKind.u8.wrap n=n:=IntWalk.u8_in n ⟨h,by omega⟩
theorem lt_ {α β:Type} (e:α) (f:α→Option β):ltt e f=f e:=rfl
theorem aIr {σ τ:Type} {b:σ→Option (σ⊕τ)} (f:Nat→σ) {t:τ}:∀ (n:Nat) (i:Nat),(∀ k,i≤k→k<i+n→b (f k)=some (.inl (f (k+1))))→b (f (i+n))=some (.inr t)→loop b (f i)=some t
 | 0,i,_,he=>bJ he
 | n+1,i,hs,he=>(dB (hs i (Nat.le_refl _) (by omega))).trans (aIr f n (i+1) (fun k h1 h2=>hs k (by omega) (by omega)) (by rw [show i+1+n=i+(n+1) by omega]; exact he))
theorem lJ {σ τ:Type} {b:σ→Option (σ⊕τ)} (f:Nat→σ) {t:τ} (n:Nat) (hs:∀ k,k<n→b (f k)=some (.inl (f (k+1)))) (he:b (f n)=some (.inr t)):loop b (f 0)=some t :=
 aIr f n 0 (fun k _ h=>hs k (by omega)) (by simpa using he)
theorem fP (n a:Nat):BitVec.ofInt n (a:Int)=BitVec.ofNat n a:=BitVec.ofInt_natCast n a
theorem aBl (a:Nat):IntKind.u64.wrap (a:Int)=((a % 18446744073709551616:Nat):Int):=by
 rw [IntKind.wrap_u64]; omega
theorem zB (a:Nat):IntKind.u8.wrap (a:Int)=((a % 256:Nat):Int):=by rw [IntKind.wrap_u8]; omega
theorem aEh {a b:Nat} (ha:a<18446744073709551616) (hb:b<18446744073709551616):yM .u64 (a:Int) (b:Int)=((a &&& b:Nat):Int):=by
 unfold yM
 rw [fP,fP,aBl]
 have h:a &&& b<18446744073709551616:=Nat.lt_of_le_of_lt Nat.and_le_left ha
 simp only [BitVec.toNat_and,BitVec.toNat_ofNat,show IntKind.u64.bits=64 from rfl]
 rw [Nat.mod_eq_of_lt (show a<2 ^ 64 by omega),Nat.mod_eq_of_lt (show b<2 ^ 64 by omega),Nat.mod_eq_of_lt h]
theorem aR2 {a b:Nat} (ha:a<256) (hb:b<256):yM .u8 (a:Int) (b:Int)=((a &&& b:Nat):Int):=by
 unfold yM
 rw [fP,fP,zB]
 have h:a &&& b<256:=Nat.lt_of_le_of_lt Nat.and_le_left ha
 simp only [BitVec.toNat_and,BitVec.toNat_ofNat,show IntKind.u8.bits=8 from rfl]
 rw [Nat.mod_eq_of_lt (show a<2 ^ 8 by omega),Nat.mod_eq_of_lt (show b<2 ^ 8 by omega),Nat.mod_eq_of_lt h]
theorem aR7 {a b:Nat} (ha:a<18446744073709551616) (hb:b<18446744073709551616):ior .u64 (a:Int) (b:Int)=((a ||| b:Nat):Int):=by
 unfold ior
 rw [fP,fP,aBl]
 have h:a ||| b<2 ^ 64:=Nat.or_lt_two_pow (show a<2 ^ 64 by omega) (show b<2 ^ 64 by omega)
 simp only [BitVec.toNat_or,BitVec.toNat_ofNat,show IntKind.u64.bits=64 from rfl]
 rw [Nat.mod_eq_of_lt (show a<2 ^ 64 by omega),Nat.mod_eq_of_lt (show b<2 ^ 64 by omega),Nat.mod_eq_of_lt (show a ||| b<18446744073709551616 from h)]
theorem aPy {a b:Nat} (ha:a<256) (hb:b<256):ior .u8 (a:Int) (b:Int)=((a ||| b:Nat):Int):=by
 unfold ior
 rw [fP,fP,zB]
 have h:a ||| b<2 ^ 8:=Nat.or_lt_two_pow (show a<2 ^ 8 by omega) (show b<2 ^ 8 by omega)
 simp only [BitVec.toNat_or,BitVec.toNat_ofNat,show IntKind.u8.bits=8 from rfl]
 rw [Nat.mod_eq_of_lt (show a<2 ^ 8 by omega),Nat.mod_eq_of_lt (show b<2 ^ 8 by omega),Nat.mod_eq_of_lt (show a ||| b<256 from h)]
theorem aQ2 {a b:Nat} (ha:a<18446744073709551616) (hb:b<18446744073709551616):xN .u64 (a:Int) (b:Int)=((a ^^^ b:Nat):Int):=by
 unfold xN
 rw [fP,fP,aBl]
 have h:a ^^^ b<2 ^ 64:=Nat.xor_lt_two_pow (show a<2 ^ 64 by omega) (show b<2 ^ 64 by omega)
 simp only [BitVec.toNat_xor,BitVec.toNat_ofNat,show IntKind.u64.bits=64 from rfl]
 rw [Nat.mod_eq_of_lt (show a<2 ^ 64 by omega),Nat.mod_eq_of_lt (show b<2 ^ 64 by omega),Nat.mod_eq_of_lt (show a ^^^ b<18446744073709551616 from h)]
theorem aD4 (n:Nat):(2:Int) ^ n=((2 ^ n:Nat):Int):=(Int.natCast_pow 2 n).symm
theorem nW {k:IntKind} (a n:Nat) (h:n≤k.bits):bS k (a:Int) (n:Int)=((a / 2 ^ n:Nat):Int):=by
 unfold bS
 rw [Int.toNat_natCast,Nat.min_eq_left h,aD4,Int.fdiv_eq_ediv_of_nonneg _ (Int.natCast_nonneg _)]
 rfl
theorem aJy (a n:Nat) (h:n≤64):yP .u64 (a:Int) (n:Int)=((a * 2 ^ n % 18446744073709551616:Nat):Int):=by
 unfold yP
 rw [Int.toNat_natCast,show min n IntKind.u64.bits=n from Nat.min_eq_left h,aD4, ← Int.natCast_mul,aBl]
theorem aSt (a n:Nat) (h:n≤8):yP .u8 (a:Int) (n:Int)=((a * 2 ^ n % 256:Nat):Int):=by
 unfold yP
 rw [Int.toNat_natCast,show min n IntKind.u8.bits=n from Nat.min_eq_left h,aD4, ← Int.natCast_mul,zB]
theorem aCp {a n:Nat} (h:a<2 ^ n) (b:Nat):a ||| (b * 2 ^ n)=a+b * 2 ^ n:=by
 rw [Nat.or_comm,Nat.mul_comm, ← Nat.two_pow_add_eq_or_of_lt h,Nat.add_comm]
def uv (n:Nat):List Int:=if h:n<128 then [(n:Int)] else ((n % 128+128:Nat):Int)::uv (n / 128)
termination_by n
decreasing_by omega
theorem zK {n:Nat} (h:n<128):uv n=[(n:Int)]:=by rw [uv,dif_pos h]
theorem zN {n:Nat} (h:¬ n<128):uv n=((n % 128+128:Nat):Int)::uv (n / 128):=by rw [uv,dif_neg h]
theorem aGw:∀ (k n:Nat),n<128 ^ (k+1)→(uv n).length≤k+1
 | 0,n,h=>by rw [zK (by simpa using h)]; simp
 | k+1,n,h=>by
  by_cases hn:n<128
  ·rw [zK hn]; simp
  ·rw [zN hn,List.length_cons]
   have:=aGw k (n / 128) (by rw [Nat.pow_succ] at h; exact Nat.div_lt_of_lt_mul (by rw [Nat.mul_comm]; exact h))
   omega
theorem dG {n:Nat} (h:n<18446744073709551616):(uv n).length≤10:=aGw 9 n (by omega)
set_option maxRecDepth 100000 in
theorem aV9:∀ m:Fin 256,(m.val ||| 128)=m.val % 128+128:=by decide
theorem yT (n:Nat):∀ (a0:List Int),n<18446744073709551616→a0.length+(uv n).length≤140737488355328→kQ a0 (n:Int)=some (a0++uv n):=by
 induction n using Nat.strongRecOn with
 | _ n ih =>
  intro a0 h hl
  unfold kQ
  by_cases hn:n<128
  ·rw [bJ (t:=(a0,(n:Int))) (by
    show lB a0 (n:Int)=_
    unfold lB
    rw [if_neg (by simp only [decide_eq_true_eq]; omega)])]
   simp only [Option.bind_some]
   unfold qE sM
   rw [zK hn] at hl ⊢
   rw [lt_,u8w (by omega) (by omega),bG (by simpa using hl)]
  ·have hl':=hl
   rw [zN hn,List.length_cons] at hl'
   have e1:IntKind.u8.wrap (n:Int)=((n % 256:Nat):Int):=zB n
   have e2:ior .u8 ((n % 256:Nat):Int) 128=((n % 128+128:Nat):Int):=by
    have:=aPy (a:=n % 256) (b:=128) (by omega) (by omega)
    rw [show ((128:Nat):Int)=128 from rfl] at this
    rw [this,aV9 ⟨n % 256,by omega⟩]
    simp only
    omega
   have e3:bS .u64 (n:Int) 7=((n / 128:Nat):Int):=nW (k:=.u64) n 7 (by decide)
   rw [dB (s':=(a0++[((n % 128+128:Nat):Int)],((n / 128:Nat):Int))) (by
    show lB a0 (n:Int)=_
    unfold lB
    rw [if_pos (by simp only [decide_eq_true_eq]; omega),lt_,e1,lt_,e2,bG (by simp; omega),lt_,e3])]
   have:=ih (n / 128) (by omega) (a0++[((n % 128+128:Nat):Int)]) (by omega) (by simp; omega)
   unfold kQ at this
   rw [this,zN hn]
   simp
def zz (i:Int):Nat:=if i<0 then (-(i+1)).toNat * 2+1 else i.toNat * 2
def uz (n:Nat):Int:=if n % 2=1 then -((n / 2:Nat):Int) - 1 else ((n / 2:Nat):Int)
theorem aYq (i:Int):uz (zz i)=i:=by unfold uz zz; split <;> split <;> omega
def i64 (i:Int):Prop := -9223372036854775808≤i∧i≤9223372036854775807
theorem aAz {i:Int} (h:i64 i):zz i<18446744073709551616:=by
 unfold i64 at h
 unfold zz; split <;> omega
theorem zR (x:Int):i64 (IntKind.i64.wrap x):=by
 rw [IntWalk.i64_left]; unfold wrap64 i64; omega
theorem aPu {a:Nat} (h:a<18446744073709551616):xN .u64 (a:Int) 18446744073709551615=((18446744073709551615 - a:Nat):Int):=by
 show IntKind.u64.wrap (((BitVec.ofInt 64 (a:Int) ^^^ BitVec.allOnes 64).toNat:Nat):Int)=_
 rw [fP,BitVec.xor_allOnes,aBl,BitVec.toNat_not,BitVec.toNat_ofNat,Nat.mod_eq_of_lt (show a<2 ^ 64 by omega)]
 omega
theorem aZh {i:Int} (h:i64 i):xN .u64 (IntKind.u64.wrap (yP .i64 i 1)) (IntKind.u64.wrap (bS .i64 i 63))=(zz i:Int):=by
 unfold i64 at h
 have e1:yP .i64 i 1=IntKind.i64.wrap (i * 2):=rfl
 have e2:bS .i64 i 63=if i<0 then -1 else 0:=by
  unfold bS
  rw [show (63:Int).toNat=63 from rfl,show min 63 IntKind.i64.bits=63 from rfl,Int.fdiv_eq_ediv_of_nonneg _ (by decide)]
  split <;> omega
 rw [e1,e2]
 have e3:IntKind.u64.wrap (IntKind.i64.wrap (i * 2))=(i * 2) % 18446744073709551616:=by
  rw [IntKind.wrap_u64,IntWalk.i64_left]; unfold wrap64; omega
 rw [e3]
 unfold zz
 by_cases hi:i<0
 ·rw [if_pos hi,if_pos hi,show IntKind.u64.wrap (-1)=18446744073709551615 from rfl]
  obtain⟨m,hm⟩:∃ m:Nat,(i * 2) % 18446744073709551616=(m:Int):=⟨((i * 2) % 18446744073709551616).toNat,by omega⟩
  rw [hm,aPu (by omega)]
  omega
 ·rw [if_neg hi,if_neg hi,show IntKind.u64.wrap 0=((0:Nat):Int) from rfl]
  obtain⟨m,hm⟩:∃ m:Nat,(i * 2) % 18446744073709551616=(m:Int):=⟨((i * 2) % 18446744073709551616).toNat,by omega⟩
  rw [hm,aQ2 (by omega) (by omega),Nat.xor_zero]
  omega
theorem aD1 {i:Int} (h:i64 i) (a0:List Int) (hl:a0.length+10≤140737488355328):oV a0 i=some (a0++uv (zz i)):=by
 unfold oV
 have:=dG (aAz h)
 simp only [lt_,aZh h,yT _ a0 (aAz h) (by omega),Option.bind_some]
theorem aJ4 (s:List UInt8) (a0:List Int) (hs:s.length≤9223372036854775807) (hl:a0.length+s.length+10≤140737488355328):pF a0 s=some (a0++uv s.length++stb s):=by
 unfold pF
 have:=dG (n:=s.length) (by omega)
 rw [lt_,aBf (by omega) (by omega),yT _ a0 (by omega) (by omega)]
 simp only [Option.bind_some]
 rw [bG (by simp; omega)]
def Bs (xs:List Int):Prop:=∀ b∈xs,0≤b∧b<256
theorem Bs.nil:Bs []:=fun _ h=>by cases h
theorem Bs.cons {b:Int} {xs:List Int} (h:Bs (b::xs)):(0≤b∧b<256)∧Bs xs:=⟨h b List.mem_cons_self,fun c hc=>h c (List.mem_cons_of_mem _ hc)⟩
theorem Bs.mk {b:Int} {xs:List Int} (hb:0≤b∧b<256) (h:Bs xs):Bs (b::xs):=fun c hc=>by
 rcases List.mem_cons.1 hc with rfl | hc
 ·exact hb
 ·exact h c hc
theorem Bs.app {xs ys:List Int} (h:Bs xs) (h':Bs ys):Bs (xs++ys):=fun c hc=>(List.mem_append.1 hc).elim (h c) (h' c)
theorem Bs.l {xs ys:List Int} (h:Bs (xs++ys)):Bs xs:=fun c hc=>h c (List.mem_append.2 (.inl hc))
theorem Bs.r {xs ys:List Int} (h:Bs (xs++ys)):Bs ys:=fun c hc=>h c (List.mem_append.2 (.inr hc))
theorem Bs.drop {xs:List Int} (h:Bs xs) (n:Nat):Bs (xs.drop n):=fun c hc=>h c (List.mem_of_mem_drop hc)
theorem Bs.take {xs:List Int} (h:Bs xs) (n:Nat):Bs (xs.take n):=fun c hc=>h c (List.mem_of_mem_take hc)
theorem Bs.uv (n:Nat):Bs (uv n):=by
 induction n using Nat.strongRecOn with
 | _ n ih =>
  by_cases hn:n<128
  ·rw [zK hn]; exact Bs.mk (by omega) Bs.nil
  ·rw [zN hn]; exact Bs.mk (by omega) (ih _ (by omega))
theorem Bs.stb (s:List UInt8):Bs (stb s):=by
 intro c hc
 unfold E.stb at hc
 obtain⟨b,_,rfl⟩:=List.mem_map.1 hc
 have:=b.toNat_lt
 omega
end Go.Proofs.YtnefioccdkmegaaGreatDoor.P
