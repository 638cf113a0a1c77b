/- Texts of the claim, joined: what it uses of Mso, Ds0, Ms0, DlSorterRuns, MlSorterRuns, LSorterRuns, DlSorterSorts, DlSorterFull, DlSorterPlans, DlSorterErrs, DlSorterFalls, Qa, Qb. -/
import Derived.Test.YtnefioccdkmegaaGreatDoorZi
import Derived.Test.YtnefioccdkmegaaGreatDoorCards
import Derived.Test.YtnefioccdkmegaaGreatDoorTie
import Derived.SevenTiedAt
import Derived.LaidMore
import Derived.OpenShut
import Derived.Stop.Joined
import Derived.ProofKit
import Derived.IntWalk
namespace Go.Proofs.YtnefioccdkmegaaGreatDoor.M
open Go Go.RowKit Go.Proofs.YtnefioccdkmegaaGreatDoor.E
set_option linter.unusedVariables false
set_option maxRecDepth 100000
set_option maxHeartbeats 4000000
set_option linter.unusedSimpArgs false
section
variable {r:World} {L:List HP} {w:World} {Z:Nat→Prop} {wz:World}
theorem aBn {a0 y} (G:mR a0=some y) (X:SH r (L) w) :
  Ret Tryz.prog 19 #[.agg #[.int .i64 a0.f0,.int .i64 a0.f1]] w fun v w'=>v=.bool y∧SH r (L) w':=by
 refine enter Tryz.func19 rfl Tryz.ntmps19 [(0,_)] rfl (by simp) ?_
 intro U J Qf hQ hQn
 unfold mR at G
 refine ws fun S I=>nY J X (fun Y U w X J=>?_) rfl
 refine x_m J rfl fun U J=>wn (I _ _ ?_)
 refine ws fun a1 H=>aL aL6 J (fun U J=>?_) rfl
 refine aI uu3 (X.cell 0 rfl 0 _ rfl) J (fun U J=>?_) rfl
 refine xk 2 J rfl fun U J=>bcG G (fun h G=>?_) fun h G=>?_
 ·refine aO h J ?_ rfl
  refine aL aL6 J (fun U J=>?_) rfl
  refine aO h J ?_ rfl
  refine aI uu3 (X.cell 0 rfl 0 _ rfl) J (fun U J=>?_) rfl
  refine xg 3 h J rfl rfl fun U J=>bcG G (fun z G=>?_) fun z G=>?_
  ·refine aO z J ?_ rfl
   refine aL aL9 J (fun U J=>?_) rfl
   refine aO z J ?_ rfl
   refine aI uu3 (X.cell 0 rfl 1 _ rfl) J (fun U J=>?_) rfl
   refine xg 3 z J rfl rfl fun U J=>bcG G (fun C G=>?_) fun C G=>?_
   ·refine aO C J ?_ rfl
    refine aL aL9 J (fun U J=>?_) rfl
    refine aO C J ?_ rfl
    refine aI uu3 (X.cell 0 rfl 1 _ rfl) J (fun U J=>?_) rfl
    refine ng 3 C J rfl rfl fun U J=>?_
    replace X:=X.drop 0
    cases G
    refine H _ _ (wp_ret ?_)
    refine hQ _ _ (lv Tryz.results19 J rfl ?_)
    exact⟨rfl,X⟩
   refine ng 5 C J rfl rfl fun U J=>?_
   replace X:=X.drop 0
   cases G
   refine H _ _ (wp_ret ?_)
   refine hQ _ _ (lv Tryz.results19 J rfl ?_)
   exact⟨rfl,X⟩
  refine xg 5 z J rfl rfl fun U J=>xO 3 rfl J rfl fun U J=>cG rfl J (fun U J=>?_) rfl
  refine x_m J rfl fun U J=>wn (H _ _ ?_)
  replace X:=X.drop 0
  cases G
  refine wp_ret (hQ _ _ ?_)
  exact lv Tryz.results19 J rfl ⟨rfl,X⟩
 refine xg 5 h J rfl rfl fun U J=>xO 3 rfl J rfl fun U J=>cG rfl J (fun U J=>?_) rfl
 refine x_m J rfl fun U J=>xO 3 rfl J rfl fun U J=>cG rfl J (fun U J=>?_) rfl
 refine x_m J rfl fun U J=>wn (H _ _ ?_)
 replace X:=X.drop 0
 cases G
 refine wp_ret (hQ _ _ ?_)
 exact lv Tryz.results19 J rfl ⟨rfl,X⟩
theorem vB {a0 a1 g0 l0 A1 n1 c1 y} (G:jG a0 a1=some y) (X:SH r (obj67 l0 g0 a0::zone Z wz::L) w) (ha1:Imm Z wz k47 A1 n1 c1 a1) (hG1:Imm Z wz (kI .u32) (some ⟨1,0,none⟩) 16 16 dA) (hG2:Gb Z wz 2 .u64 cO) :
  Ret Tryz.prog 41 #[.pointer (some ⟨g0,0,none⟩),.slice A1 n1 c1] w fun v w'=>∃ (Z':Nat→Prop) (wz':World),v=.tuple #[(str y.1),(.int .i64 y.2.1)]∧Sub Z wz Z' wz'∧SH r (obj67 l0 g0 y.2.2::zone Z' wz'::L) w':=by
 refine aV7 Tryz.func41 rfl Tryz.ntmps41 [(0,(pP g0)),(1,.slice A1 n1 c1)] rfl (by simp) ?_
 intro U J Qf hQ hQD
 unfold jG at G
 obtain⟨h,z,C,X⟩:=bG ((mK X).pk 1)
 refine nz 2 J rfl fun U J=>ws fun e7 c5=>xk 2 J rfl fun U J=>aL aL0 J (fun U J=>?_) rfl
 refine aI uu3 (X.cell 2 rfl 4 _ rfl) J (fun U J=>?_) rfl
 obtain⟨a7,c6,G⟩:=bnd G
 refine x_c bB1 J rfl (aGg c6 X 3 rfl hG2 :) fun v U w hR J=>?_
 obtain⟨rfl,X⟩:=hR
 obtain⟨c7,G⟩:=aB G
 refine x_v J (aWq rfl (J.ev rfl) (J.ev rfl) c7) rfl fun U J=>x_m J rfl fun U J=>wn (c5 _ _ ?_)
 refine ws fun e8 c8=>xk 2 J rfl fun U J=>aL aL0 J (fun U J=>?_) rfl
 refine aI uu3 (X.cell 2 rfl 4 _ rfl) J (fun U J=>?_) rfl
 refine x_l G J rfl fun a3 _ U J G=>xk 1 J rfl fun U J=>aL aL0 J (fun U J=>?_) rfl
 refine dH 2 sz3 J X rfl (fun  U w X J=>?_) rfl
 refine wn (c8 _ _ ?_)
 refine ws fun e9 c9=>iC (cs:=[.slice none 0 0]) bCb J X (fun a4 U w X J=>?_) rfl
 refine wn (c9 _ _ ?_)
 refine wp_seq_k fun f5 d0=>ws fun f6 d1=>xk 1 J rfl fun U J=>x_c aY0 J rfl (yG (L:=blk a4 32 [.slice none 0 0]::blk g0 67 [.pointer (some ⟨l0,0,none⟩),.int .i64 a0.f1.f0,.int .i64 a0.f1.f1,.int .i64 a0.f2,.int .i64 a3]::blk l0 58 [.slice h z C,.int .i64 a0.f0.f1,.int .i64 a0.f0.f2,.bool a0.f0.f3,.int .i64 a0.f0.f4]::own2 kp64 (kI .u8) 5 (fun x:S64=>x.f1) 64 h z C a0.f0.f0::zone Z wz::L) (A:=A1) (n:=n1) (c:=c1) (k:=64) (by decide) X) fun v U w hR J=>?_
 obtain⟨a5,a6,rfl,X⟩:=hR
 refine wn (d1 _ _ ?_)
 refine aA fun f7 d2=>?_
 replace X:=(SH.nil_own (d:=(kI .u8)) (e:=5) X).pk 7 |>.pk 1 |>.pk 7 |>.pk 4 |>.pk 4 |>.pk 5 |>.pk 7 |>.pk 7
 obtain⟨d3,b4,G⟩:=bnd G
 obtain⟨d4,b4⟩:=aB b4
 refine aO8 (d:=k47) chunk_hands47.hands aYa rfl b4 (J.sub [(0,(pP g0)),(6,str ([114,117,110,46]++a7)),(7,(pP a4)),(23,.func (.func 52) #[] #[.pointer (some ⟨a5,0,none⟩),(pP a6)])] rfl) (Imm.pieces ha1) d4 (fun (s:((List Int))) E=>∃ (Y:Nat→Prop) (a2:World) (H:Option Addr) (I:Nat) (S:Nat),Sub Z wz Y a2∧Imm Y a2 k47 A1 n1 c1 a1∧E=[blk g0 67 [.pointer (some ⟨l0,0,none⟩),.int .i64 a0.f1.f0,.int .i64 a0.f1.f1,.int .i64 a0.f2,.int .i64 a3],blk l0 58 [.slice h z C,.int .i64 a0.f0.f1,.int .i64 a0.f0.f2,.bool a0.f0.f3,.int .i64 a0.f0.f4],blk a4 32 [.slice H I S],blk a5 22 [.slice A1 n1 c1],blk a6 3 [.int .i64 64],own2 kp64 (kI .u8) 5 (fun x:S64=>x.f1) 64 h z C a0.f0.f0,own (kI .u8) 5 H I S s,zone Y a2]) [blk g0 67 [.pointer (some ⟨l0,0,none⟩),.int .i64 a0.f1.f0,.int .i64 a0.f1.f1,.int .i64 a0.f2,.int .i64 a3],blk l0 58 [.slice h z C,.int .i64 a0.f0.f1,.int .i64 a0.f0.f2,.bool a0.f0.f3,.int .i64 a0.f0.f4],blk a4 32 [.slice none 0 0],blk a5 22 [.slice A1 n1 c1],blk a6 3 [.int .i64 64],own2 kp64 (kI .u8) 5 (fun x:S64=>x.f1) 64 h z C a0.f0.f0,own (kI .u8) 5 none 0 0 [],zone Z wz] ⟨Z,wz,none,0,0,(Sub.refl _ _),ha1,rfl⟩ X ?_ ?_ ?_ rfl rfl rfl rfl rfl rfl
 ·rintro s E ⟨Y,a2,H,I,S,a8,b3,rfl⟩
  exact⟨3,4,_,_,rfl,rfl⟩
 ·intro lp k d5 d6 E B U w hlt G hX J X Qr hLO hK
  obtain⟨a9,rfl⟩:∃ q,q=d5:=⟨_,rfl⟩
  try dsimp only at hX
  obtain⟨Y,a2,H,I,S,a8,b3,rfl⟩:=hX
  replace X:SH r (blk g0 67 [.pointer (some ⟨l0,0,none⟩),.int .i64 a0.f1.f0,.int .i64 a0.f1.f1,.int .i64 a0.f2,.int .i64 a3]::blk l0 58 [.slice h z C,.int .i64 a0.f0.f1,.int .i64 a0.f0.f2,.bool a0.f0.f3,.int .i64 a0.f0.f4]::blk a4 32 [.slice H I S]::blk a5 22 [.slice A1 n1 c1]::blk a6 3 [.int .i64 64]::own2 kp64 (kI .u8) 5 (fun x:S64=>x.f1) 64 h z C a0.f0.f0::own (kI .u8) 5 H I S a9::zone Y a2::B) w:=X
  obtain⟨f8,f9,hpv,b5⟩:=Imm.piece b3 rfl hlt
  replace J:=hpv▸J
  clear hpv
  generalize List.take 64 (List.drop (k * 64) a1)=d7 at G b5
  replace G:jF a9 d7=some d6:=G
  unfold jF at G
  refine aBq fun g1 d8=>xJ hLO (by kernel_rfl) (aI fC (X.cell 2 rfl 0 _ rfl) J (fun U J=>?_) rfl)
  refine x_m J rfl fun U J=>?_
  replace X:=X.pk 7 |>.pk 7
  obtain⟨d9,e0,G⟩:=bnd G
  refine x_c bAz J rfl (aKz e0 X b5 (Imm.sub hG1 a8) :) fun v U w hR J=>?_
  obtain⟨c0,c3,b6,b7,b8,rfl,b9,X⟩:=hR
  have g2:=Imm.sub b5 b9
  have e1:=Imm.sub b3 b9
  refine dH 4 aC0 J X rfl (fun  U w X J=>?_) rfl
  refine wpList_nil ?_
  replace X:=X.pk 2 |>.pk 2 |>.pk 7 |>.pk 7 |>.pk 7 |>.pk 5 |>.pk 7 |>.pk 7
  obtain rfl:=Option.some.inj G
  exact d8 _ _ (hK _ _ [blk g0 67 [.pointer (some ⟨l0,0,none⟩),.int .i64 a0.f1.f0,.int .i64 a0.f1.f1,.int .i64 a0.f2,.int .i64 a3],blk l0 58 [.slice h z C,.int .i64 a0.f0.f1,.int .i64 a0.f0.f2,.bool a0.f0.f3,.int .i64 a0.f0.f4],blk a4 32 [.slice b6 b7 b8],blk a5 22 [.slice A1 n1 c1],blk a6 3 [.int .i64 64],own2 kp64 (kI .u8) 5 (fun x:S64=>x.f1) 64 h z C a0.f0.f0,own (kI .u8) 5 b6 b7 b8 d9,zone c0 c3] ⟨c0,c3,b6,b7,b8,(Sub.trans a8 b9),e1,rfl⟩ X)
 ·intro e2 E U w hX J X
  obtain⟨a9,rfl⟩:∃ q,q=d3:=⟨_,rfl⟩
  try dsimp only at hX
  obtain⟨Y,a2,H,I,S,a8,b3,rfl⟩:=hX
  replace X:SH r (blk g0 67 [.pointer (some ⟨l0,0,none⟩),.int .i64 a0.f1.f0,.int .i64 a0.f1.f1,.int .i64 a0.f2,.int .i64 a3]::blk l0 58 [.slice h z C,.int .i64 a0.f0.f1,.int .i64 a0.f0.f2,.bool a0.f0.f3,.int .i64 a0.f0.f4]::blk a4 32 [.slice H I S]::blk a5 22 [.slice A1 n1 c1]::blk a6 3 [.int .i64 64]::own2 kp64 (kI .u8) 5 (fun x:S64=>x.f1) 64 h z C a0.f0.f0::own (kI .u8) 5 H I S a9::zone Y a2::oX e2 (.deferred (some []))::L) w:=X
  replace G:kZ a0 a7 a3 a9=some y:=G
  unfold kZ at G
  refine d2 _ _ (d0 _ _ ?_)
  refine wp_seq_k fun g3 e3=>cN [0,0,2,6,14,0,0,126,255,511] [7] rfl J X (by kernel_rfl) (by kernel_rfl) (by kernel_rfl) (by kernel_rfl) fun w X=>⟨[(0,str ([114,117,110,46]++a7)),(1,(pP g0)),(2,(pP g0)),(3,(pP g0)),(4,(pP l0)),(5,str ([114,117,110,46]++a7)),(6,.slice H I S)],?_⟩
  refine dF [0,1,2,3,4,5,6] [7] (by kernel_rfl) ⟨pm rfl,pm rfl,pt [(29,_)] rfl (fun U J=>dC rfl (J.ev rfl)),pt [(30,_)] rfl (fun U J=>eR aI8 J rfl rfl),pt [(31,_)] rfl (fun U J=>cM yT (X.cell 0 rfl 0 _ rfl) J rfl rfl rfl),pm rfl,pt [(7,_)] rfl (fun U J=>cM fC (X.cell 2 rfl 0 _ rfl) J rfl rfl rfl),trivial⟩ ⟨et [(32,_),(33,_),(34,_)] rfl (fun U J K hK=>?_),trivial⟩
  replace X:=SH.optS (aM (x:=a0.f0) (X.pk 5 |>.pk 2))
  obtain⟨e4,e5,G⟩:=bnd G
  refine nQ bB2 J (zF e5 X (RdL.own 4 rfl (X.dropN 1)) :) (fun v w hR=>?_) rfl
  obtain⟨rfl,X⟩:=hR
  obtain⟨c4,e6,G⟩:=bnd G
  rw [e6] at X
  obtain⟨g4,g5,g6,X⟩:=bG (SH.unoptP X)
  refine hK _ [(8,str ([114,117,110,46]++a7)),(9,.int .i64 e4.1)] _ rfl (gM [0,8,9] (by kernel_rfl) ⟨pm rfl,pm rfl,pm rfl,trivial⟩ ⟨by kernel_rfl,by kernel_rfl⟩ [(0,_),(4,_),(5,_)] rfl (fun U J=>?_))
  replace X:=(aM (x:=c4) (X.pk 1 |>.pk 1)).pk 1
  replace X:=(iS (x:=(⟨c4,a0.f1,a0.f2,a3⟩:S67)) X).drop 1 |>.drop 1 |>.drop 1 |>.drop 1 |>.pk 1 |>.pk 1
  cases G
  refine e3 _ _ (wp_ret ?_)
  exact hQD _ _ _ _ _ _ J (X.pk 2) fun U w J X=>lv2 Tryz.results41 J rfl rfl ⟨Y,a2,rfl,a8,X⟩
theorem vA {a0 a1 g0 l0 y} (G:jH a0 a1=some y) (X:SH r (obj67 l0 g0 a0::zone Z wz::L) w) (hG1:Imm Z wz (kI .u32) (some ⟨1,0,none⟩) 16 16 dA) :
  Ret Tryz.prog 45 #[.pointer (some ⟨g0,0,none⟩),str a1] w fun v w'=>∃ (Z':Nat→Prop) (wz':World) (B0:Option Addr) (m0:Nat) (d0:Nat),v=.tuple #[(.slice B0 m0 d0),(.int .i64 y.2.1)]∧Sub Z wz Z' wz'∧SH r (own k47 47 B0 m0 d0 y.1::obj67 l0 g0 y.2.2::zone Z' wz'::L) w':=by
 refine enter Tryz.func45 rfl Tryz.ntmps45 [(0,_),(1,_)] rfl (by simp) ?_
 intro U J Qf hQ hQn
 unfold jH at G
 obtain⟨h9,i0,i1,X⟩:=bG ((mK X).pk 1)
 refine nz 2 J rfl fun U J=>ws fun i2 e0=>xk 2 J rfl fun U J=>aL aI8 J (fun U J=>?_) rfl
 refine aI yT (X.cell 2 rfl 0 _ rfl) J (fun U J=>?_) rfl
 refine x_m J rfl fun U J=>?_
 replace X:=SH.optS (aM (x:=a0.f0) (X.pk 1 |>.pk 1))
 obtain⟨a8,e1,G⟩:=bnd G
 refine x_c bBf J rfl (aBv e1 X :) fun v U w hR J=>?_
 obtain⟨a9,b3,b4,rfl,X⟩:=hR
 obtain⟨h,z,C,X⟩:=bG (SH.unoptP (X.pk 1))
 refine xk 2 J rfl fun U J=>?_
 replace X:=X.pk 4 |>.pk 3
 obtain⟨e2,e3,X,e4,e5⟩:=SH.freeze (n:=b3) (c:=b4) (A:=a9) X
 refine nk 3 J rfl fun U J=>e0 _ _ (nz 1 J rfl fun U J=>?_)
 refine wp_seq_k fun i3 e6=>nz 1 J rfl fun U J=>aA fun d5 e7=>?_
 have hb1:∀c8 c9,lN a0 a1 c8 c9=some y→∀a3 a4 b5 b6 b7 (d1:Sub Z wz a3 a4) U w,FR 52 [] U [(0,(pP g0)),(1,str a1),(7,.int .i64 c8),(8,.slice b5 b6 b7)]→SH r (blk g0 67 [.pointer (some ⟨l0,0,none⟩),.int .i64 a0.f1.f0,.int .i64 a0.f1.f1,.int .i64 a0.f2,.int .i64 a0.f3]::blk l0 58 [.slice h z C,.int .i64 a0.f0.f1,.int .i64 a0.f0.f2,.bool a0.f0.f3,.int .i64 a0.f0.f4]::own2 kp64 (kI .u8) 5 (fun x:S64=>x.f1) 64 h z C a0.f0.f0::own k47 47 b5 b6 b7 c9::zone a3 a4::L) w→d5 U w:=by
  intro c8 c9 G a3 a4 b5 b6 b7 d1 U w J X
  unfold lN at G
  refine e7 _ _ (e6 _ _ ?_)
  refine wp_seq_k fun i4 e8=>nz 2 J rfl fun U J=>bB J G rfl (fun e9 G=>?_) fun e9 G=>?_
  ·refine nz 3 J rfl fun U J=>?_
   replace X:=(iS (x:=a0) ((aM (x:=a0.f0) ((SH.nil_own (d:=k47) (e:=47) X).pk 3 |>.pk 3)).pk 2)).drop 2 |>.pk 2 |>.pk 1 |>.pk 2
   cases G
   refine wp_ret (hQ _ _ ?_)
   exact lv2 Tryz.results45 J rfl rfl ⟨a3,a4,none,0,0,rfl,d1,X⟩
  refine wp_skip (e8 _ _ ?_)
  refine ws fun i5 f5=>xk 3 J rfl fun U J=>aL aI8 J (fun U J=>?_) rfl
  refine aI yT (X.cell 0 rfl 0 _ rfl) J (fun U J=>?_) rfl
  refine x_m J rfl fun U J=>?_
  replace X:=SH.optS (aM (x:=a0.f0) (X.pk 2 |>.pk 2))
  obtain⟨i6,f6,G⟩:=bnd G
  refine x_c aY7 J rfl (uJ f6 X :) fun v U w hR J=>?_
  obtain⟨rfl,X⟩:=hR
  obtain⟨d6,f7,G⟩:=bnd G
  rw [f7] at X
  obtain⟨i7,i8,i9,X⟩:=bG (SH.unoptP X)
  refine nk 2 J rfl fun U J=>?_
  replace X:=(aM (x:=d6) (X.pk 1 |>.pk 1)).pk 1
  replace X:=(iS (x:=(⟨d6,a0.f1,a0.f2,a0.f3⟩:S67)) X).pk 2 |>.pk 1 |>.pk 2
  cases G
  refine f5 _ _ (wp_ret ?_)
  refine hQ _ _ (lv2 Tryz.results45 J rfl rfl ?_)
  exact⟨a3,a4,b5,b6,b7,rfl,d1,X⟩
 obtain⟨f8,f9,G⟩:=bnd G
 have g1:∀a5 a6,(a5,a6)=f8→∀b8 b9 c0 c3 c4 (d7:Sub Z wz b8 b9) U w,FR 52 [] U [(0,(pP g0)),(1,str a1),(7,.int .i64 a5),(8,.slice c0 c3 c4)]→SH r (blk g0 67 [.pointer (some ⟨l0,0,none⟩),.int .i64 a0.f1.f0,.int .i64 a0.f1.f1,.int .i64 a0.f2,.int .i64 a0.f3]::blk l0 58 [.slice h z C,.int .i64 a0.f0.f1,.int .i64 a0.f0.f2,.bool a0.f0.f3,.int .i64 a0.f0.f4]::own2 kp64 (kI .u8) 5 (fun x:S64=>x.f1) 64 h z C a0.f0.f0::own k47 47 c0 c3 c4 a6::zone b8 b9::L) w→d5 U w:=by
  intro a5 a6 ht b8 b9 c0 c3 c4 d7 U w J X
  subst ht
  replace G:jV a0 a1 a5 a6=some y:=G
  unfold jV at G
  exact hb1 a5 a6 G b8 b9 c0 c3 c4 d7 U w (J.sub _ rfl) X
 replace X:=(SH.nil_own (d:=k47) (e:=47) X).pk 1 |>.pk 1 |>.pk 3 |>.pk 3 |>.pk 4
 refine aD f9 (fun s U w=>∃H I S Y a2,Sub Z wz H I∧Imm H I (kI .u8) a9 b3 b4 a8.1∧FR 52 [] U [(0,(pP g0)),(1,str a1),(6,.slice a9 b3 b4),(7,.int .i64 s.1),(8,.slice S Y a2),(9,.int .i64 s.2.2)]∧SH r (blk g0 67 [.pointer (some ⟨l0,0,none⟩),.int .i64 a0.f1.f0,.int .i64 a0.f1.f1,.int .i64 a0.f2,.int .i64 a0.f3]::blk l0 58 [.slice h z C,.int .i64 a0.f0.f1,.int .i64 a0.f0.f2,.bool a0.f0.f3,.int .i64 a0.f0.f4]::own2 kp64 (kI .u8) 5 (fun x:S64=>x.f1) 64 h z C a0.f0.f0::own k47 47 S Y a2 s.2.1::zone H I::L) w) ⟨e2,e3,none,0,0,e5,e4,J.sub _ rfl,X⟩ ?_
 intro j0 g2 d8 G g3 g4 U w hLab
 obtain⟨c5,c6,c7⟩:=g2
 replace G:cZ a0 a8 c5 c6 c7=some d8:=G
 unfold cZ at G
 try dsimp only at hLab
 obtain⟨H,I,S,Y,a2,d2,d3,J,X⟩:=hLab
 refine wp_seq_k fun j1 g5=>wp_seq_k fun g6 g7=>?_
 have hj1:∀d4,gQ a0 a8 c5 c6 c7 d4=some d8→∀U w,FR 52 [] U [(0,(pP g0)),(1,str a1),(6,.slice a9 b3 b4),(7,.int .i64 c5),(8,.slice S Y a2),(9,.int .i64 c7),(27,.bool d4)]→SH r (blk g0 67 [.pointer (some ⟨l0,0,none⟩),.int .i64 a0.f1.f0,.int .i64 a0.f1.f1,.int .i64 a0.f2,.int .i64 a0.f3]::blk l0 58 [.slice h z C,.int .i64 a0.f0.f1,.int .i64 a0.f0.f2,.bool a0.f0.f3,.int .i64 a0.f0.f4]::own2 kp64 (kI .u8) 5 (fun x:S64=>x.f1) 64 h z C a0.f0.f0::own k47 47 S Y a2 c6::zone H I::L) w→g6 U w:=by
  intro d4 G U w J X
  unfold gQ at G
  refine g7 _ _ (bB J G rfl (fun g8 G=>?_) fun g8 G=>?_)
  ·refine wp_skip (g5 _ _ ?_)
   refine aA fun j2 g9=>nz 1 J rfl fun U J=>ws fun j3 h0=>xk 4 J rfl fun U J=>aL aXj J (fun U J=>?_) rfl
   refine aI uu3 (X.cell 0 rfl 3 _ rfl) J (fun U J=>?_) rfl
   replace X:=X.pk 4
   obtain⟨j4,h1,G⟩:=bnd G
   refine x_c bBg J rfl (aJk h1 X d3 (Imm.sub hG1 d2) :) fun v U w hR J=>?_
   obtain⟨h2,h3,j5,j6,j7,rfl,d9,X⟩:=hR
   have h4:=Imm.sub d3 d9
   refine nk 7 J rfl fun U J=>h0 _ _ (aC ?_)
   refine xk 2 J rfl fun U J=>?_
   obtain⟨h5,G⟩:=aB G
   have hr:=X.rd 0 rfl
   refine gG 5 aB8 eT J X hr.1 hr.2.1 h5 rfl (fun h6 h7 h8 U w X J=>?_) rfl
   refine x_m J rfl fun U J=>wpList_nil ?_
   replace X:=X.drop 1 |>.pk 1 |>.pk 1 |>.pk 4 |>.pk 4 |>.pk 4
   cases G
   exact g9 _ _ ⟨_,g3 _ rfl,h2,h3,h6,h7,h8,(Sub.trans d2 d9),h4,J.sub _ rfl,X⟩
  cases G
  exact wp_exit (g1 c5 c6 (g4 _ rfl) H I S Y a2 d2 U w (J.sub _ rfl) X)
 refine aC (xk 3 J rfl fun U J=>?_)
 refine bcG G (fun a7 G=>?_) fun a7 G=>?_
 ·refine xg 2 a7 J rfl rfl fun U J=>aO a7 J ?_ rfl
  refine aX fC (X.imm 4 d3 rfl).2.1 J (fun U J=>?_) rfl
  exact ng 2 a7 J rfl rfl fun U J=>hj1 (decide (c7<(a8.1.length:Int))) G U w (J.sub _ rfl) X
 exact ng 5 a7 J rfl rfl fun U J=>hj1 false G U w (J.sub _ rfl) X
theorem zU {a0 p0 y} (G:nS a0=some y) (X:SH r (sB (obj58) p0 a0::L) w) :
  Ret Tryz.prog 21 #[.pointer p0] w fun v w'=>v=.int .i64 y.1∧SH r (sB (obj58) p0 y.2::L) w':=by
 refine enter Tryz.func21 rfl Tryz.ntmps21 [(0,_)] rfl (by simp) ?_
 intro U J Qf hQ hQn
 unfold nS at G
 cases a0 with
 | none =>
  have hU:=SH.unoptN X
  clear X
  obtain⟨rfl,X⟩:=hU
  refine nz 1 J rfl fun U J=>wp_seq_k fun i2 i3=>ws fun i4 e2=>xk 1 J rfl fun U J=>x_v (v:=.bool true) J (uM (p:=none) yT rfl (J.ev rfl) (J.ev rfl)) rfl fun U J=>wn (e2 _ _ ?_)
  refine c_t (b:=true) rfl J ?_ rfl
  refine nz 1 J rfl fun U J=>?_
  replace X:=SH.optN (obj58) X
  cases G
  refine wp_ret (hQ _ _ ?_)
  exact lv Tryz.results21 J rfl ⟨rfl,X⟩
 | some e3 =>
  have hU:=SH.unoptS X
  clear X
  obtain⟨h,rfl,X⟩:=hU
  obtain⟨i5,i6,i7,X⟩:=bG X
  refine nz 1 J rfl fun U J=>wp_seq_k fun i8 e4=>ws fun i9 e5=>xk 1 J rfl fun U J=>x_v (v:=.bool false) J (uM (p:=some ⟨h,0,none⟩) yT rfl (J.ev rfl) (J.ev rfl)) rfl fun U J=>wn (e5 _ _ ?_)
  refine c_f (b:=false) rfl J ?_ rfl
  refine wp_skip (e4 _ _ ?_)
  refine wp_seq_k fun j0 e6=>ws fun j1 e7=>xk 1 J rfl fun U J=>?_
  replace X:=SH.optS (aM (x:=e3) (X.pk 1 |>.pk 1))
  obtain⟨C,e8,G⟩:=bnd G
  refine x_c bBm J rfl (aBr e8 X :) fun v U w hR J=>?_
  obtain⟨a5,a6,a7,rfl,X⟩:=hR
  obtain⟨e9,f5,f6,X⟩:=bG (SH.unoptP (X.pk 1))
  refine aX lE (X.rd 2 rfl).2.1 J (fun U J=>?_) rfl
  refine x_m J rfl fun U J=>wn (e7 _ _ ?_)
  refine aA fun d8 f7=>?_
  have hb1:∀a8 a9 b3 b4 b5,uU a8 a9 b3 b4 b5=some y→∀c9 d0 d1 U w,FR 24 [] U [(0,(pP h))]→SH r (blk h 58 [.slice c9 d0 d1,.int .i64 a9,.int .i64 b3,.bool b4,.int .i64 b5]::own2 kp64 (kI .u8) 5 (fun x:S64=>x.f1) 64 c9 d0 d1 a8::L) w→d8 U w:=by
   intro a8 a9 b3 b4 b5 G c9 d0 d1 U w J X
   unfold uU at G
   refine f7 _ _ (e6 _ _ ?_)
   refine nz 1 J rfl fun U J=>?_
   replace X:=X.pk 1 |>.pk 1
   replace X:=SH.optS (aM (x:=(⟨a8,a9,b3,b4,b5⟩:S58)) X)
   cases G
   refine wp_ret (hQ _ _ ?_)
   exact lv Tryz.results21 J rfl ⟨rfl,X⟩
  obtain⟨f8,f9,G⟩:=bnd G
  have g0:=G
  have g1:∀H I S Y a1,(.inl (H,I,S,Y,a1))=f8→∀b6 b7 b8 U w,FR 24 [] U [(0,(pP h))]→SH r (blk h 58 [.slice b6 b7 b8,.int .i64 I,.int .i64 S,.bool Y,.int .i64 a1]::own2 kp64 (kI .u8) 5 (fun x:S64=>x.f1) 64 b6 b7 b8 H::L) w→d8 U w:=by
   intro H I S Y a1 ht b6 b7 b8 U w J X
   subst ht
   replace G:oV H I S Y a1=some y:=G
   unfold oV at G
   exact hb1 H I S Y a1 G b6 b7 b8 U w (J.sub _ rfl) X
  refine aD f9 (fun s U w=>∃a2 a3 a4,FR 24 [] U [(0,(pP h)),(9,.slice a5 a6 a7),(10,.int .i64 (C.length:Int)),(11,.int .i64 s.2.2.2.2.2)]∧SH r (blk h 58 [.slice a2 a3 a4,.int .i64 s.2.1,.int .i64 s.2.2.1,.bool s.2.2.2.1,.int .i64 s.2.2.2.2.1]::own2 kp64 (kI .u8) 5 (fun x:S64=>x.f1) 64 a2 a3 a4 s.1::own kS 9 a5 a6 a7 C::L) w) ⟨e9,f5,f6,J.sub _ rfl,X⟩ ?_
  intro j2 g2 d9 G g3 e0 U w hLab
  obtain⟨b9,c0,c3,c4,c5,d2⟩:=g2
  replace G:eE C b9 c0 c3 c4 c5 d2=some d9:=G
  unfold eE at G
  try dsimp only at hLab
  obtain⟨a2,a3,a4,J,X⟩:=hLab
  refine nz 1 J rfl fun U J=>wp_seq_k fun j3 g4=>bB J G rfl (fun g5 G=>?_) fun g5 G=>?_
  ·refine wp_skip (g4 _ _ ?_)
   refine wp_seq_k fun j4 g6=>aA fun g7 g8=>?_
   have hb2:∀d3 d4 d5 d6 d7,lJ d2 d3 d4 d5 d6 d7=some d9→∀c6 c7 c8 U w,FR 24 [] U [(0,(pP h)),(9,.slice a5 a6 a7),(10,.int .i64 (C.length:Int)),(11,.int .i64 d2)]→SH r (blk h 58 [.slice c6 c7 c8,.int .i64 d4,.int .i64 d5,.bool d6,.int .i64 d7]::own2 kp64 (kI .u8) 5 (fun x:S64=>x.f1) 64 c6 c7 c8 d3::own kS 9 a5 a6 a7 C::L) w→g7 U w:=by
    intro d3 d4 d5 d6 d7 G c6 c7 c8 U w J X
    unfold lJ at G
    refine g8 _ _ (g6 _ _ ?_)
    refine aC (x_l G J rfl fun j5 _ U J G=>?_)
    refine x_m J rfl fun U J=>wpList_nil ?_
    cases G
    exact⟨_,g3 _ rfl,c6,c7,c8,J.sub _ rfl,X⟩
   refine ws fun j6 g9=>?_
   obtain⟨j7,e1,G⟩:=bnd G
   refine fO lE sz9 (X.rd 2 rfl) e1 J (fun U J=>?_) rfl
   obtain⟨cs,hV,h0⟩:=el (X.rd 2 rfl) e1
   obtain rfl:=hV
   refine aI uu9 (h0 0 _ rfl) J (fun U J=>?_) rfl
   refine x_m J rfl fun U J=>wn (g9 _ _ ?_)
   refine ws fun j8 h1=>xk 1 J rfl fun U J=>?_
   obtain⟨j9,h2,G⟩:=bnd G
   refine x_c bBb J rfl (aAy h2 X :) fun v U w hR J=>?_
   obtain⟨rfl,X⟩:=hR
   refine wn (h1 _ _ ?_)
   refine bB J G rfl (fun h3 G=>?_) fun h3 G=>?_
   ·refine ws fun k0 h4=>xk 2 J rfl fun U J=>?_
    replace X:=X.pk 1 |>.pk 1
    replace X:=SH.optS (aM (x:=(⟨b9,c0,c3,c4,c5⟩:S58)) X)
    obtain⟨h5,h6,G⟩:=bnd G
    refine x_c aY7 J rfl (uJ h6 X :) fun v U w hR J=>?_
    obtain⟨rfl,X⟩:=hR
    obtain⟨z,h7,G⟩:=bnd G
    rw [h7] at X
    obtain⟨h8,h9,i0,X⟩:=bG (SH.unoptP X)
    refine x_m J rfl fun U J=>wn (h4 _ _ ?_)
    refine nz 2 J rfl fun U J=>bB J G rfl (fun i1 G=>?_) fun i1 G=>?_
    ·refine nz 2 J rfl fun U J=>?_
     replace X:=(SH.optS (aM (x:=z) (X.pk 1 |>.pk 1))).drop 1
     cases G
     refine wp_ret ?_
     have ht:=e0 _ rfl
     subst ht
     replace G:=g0
     replace G:some (h5.1,some z)=some y:=G
     cases G
     refine hQ _ _ (lv Tryz.results21 J rfl ?_)
     exact⟨rfl,X⟩
    exact wp_skip (hb2 z.f0 z.f1 z.f2 z.f3 z.f4 G h8 h9 i0 U w (J.sub _ rfl) X)
   exact wp_skip (hb2 b9 c0 c3 c4 c5 G a2 a3 a4 U w (J.sub _ rfl) X)
  replace X:=X.drop 2
  cases G
  exact wp_exit (g1 b9 c0 c3 c4 c5 (e0 _ rfl) a2 a3 a4 U w (J.sub _ rfl) X)
theorem aBf {a0 a1 g0 l0 A1 n1 c1 y} (G:mZ a0 a1=some y) (X:SH r (obj67 l0 g0 a0::zone Z wz::L) w) (ha1:Imm Z wz kS A1 n1 c1 a1) (hG1:Imm Z wz (kI .u32) (some ⟨1,0,none⟩) 16 16 dA) (hG2:Gb Z wz 2 .u64 cO) :
  Ret Tryz.prog 44 #[.pointer (some ⟨g0,0,none⟩),.slice A1 n1 c1] w fun v w'=>∃ (Z':Nat→Prop) (wz':World),v=.tuple #[(str y.1),(.int .i64 y.2.1)]∧Sub Z wz Z' wz'∧SH r (obj67 l0 g0 y.2.2::zone Z' wz'::L) w':=by
 refine enter Tryz.func44 rfl Tryz.ntmps44 [(0,_),(1,_)] rfl (by simp) ?_
 intro U J Qf hQ hQn
 unfold mZ at G
 obtain⟨h9,i0,i1,X⟩:=bG ((mK X).pk 1)
 refine nz 2 J rfl fun U J=>wp_seq_k fun n4 i2=>ws fun n5 i3=>xk 1 J rfl fun U J=>aX lE (X.imm 3 ha1 rfl).2.1 J (fun U J=>?_) rfl
 refine nk 1 J rfl fun U J=>i3 _ _ (bB J G rfl (fun i4 G=>?_) fun i4 G=>?_)
 ·refine ws fun n6 i5=>xk 1 J rfl fun U J=>?_
  obtain⟨n7,g9,G⟩:=bnd G
  refine fO lE sz9 (X.imm 3 ha1 rfl) g9 J (fun U J=>?_) rfl
  obtain⟨cs,hV,i6⟩:=el (X.imm 3 ha1 rfl) g9
  obtain rfl:=hV
  refine aI uu9 (i6 0 _ rfl) J (fun U J=>?_) rfl
  refine nk 2 J rfl fun U J=>?_
  replace X:=(iS (x:=a0) ((aM (x:=a0.f0) (X.pk 1 |>.pk 1)).pk 1)).pk 1 |>.pk 1
  cases G
  refine i5 _ _ (wp_ret ?_)
  refine hQ _ _ (lv2 Tryz.results44 J rfl rfl ?_)
  exact⟨Z,wz,rfl,(Sub.refl _ _),X⟩
 refine wp_skip (i2 _ _ ?_)
 refine nz 1 J rfl fun U J=>wp_seq_k fun n8 i7=>ws fun n9 i8=>xk 1 J rfl fun U J=>aX lE (X.imm 3 ha1 rfl).2.1 J (fun U J=>?_) rfl
 refine x_m J rfl fun U J=>wn (i8 _ _ ?_)
 refine aA fun h0 i9=>?_
 have hb1:∀h z C H I a2 a3 a4 a5 f5,mL h z C H I a2 a3 a4 a5 f5=some y→∀a6 a7 f6 f7 f8 f9 g1 g2 (a8:Sub Z wz a6 a7) U w,FR 52 [] U [(0,(pP g0)),(6,.slice f9 g1 g2)]→SH r (blk g0 67 [.pointer (some ⟨l0,0,none⟩),.int .i64 a2,.int .i64 a3,.int .i64 a4,.int .i64 a5]::blk l0 58 [.slice f6 f7 f8,.int .i64 z,.int .i64 C,.bool H,.int .i64 I]::own2 kp64 (kI .u8) 5 (fun x:S64=>x.f1) 64 f6 f7 f8 h::own (kM a6 a7 k47) 22 f9 g1 g2 f5::zone a6 a7::L) w→h0 U w:=by
  intro h z C H I a2 a3 a4 a5 f5 G a6 a7 f6 f7 f8 f9 g1 g2 a8 U w J X
  unfold mL at G
  refine i9 _ _ (i7 _ _ ?_)
  refine ws fun o0 j0=>xk 1 J rfl fun U J=>?_
  obtain⟨o1,j1,G⟩:=bnd G
  refine x_c bB7 J rfl (aJu j1 X 4 rfl (RdL.own 3 rfl (X.dropN 0)) :) fun v U w hR J=>?_
  obtain⟨j2,j3,j4,rfl,X⟩:=hR
  refine nk 5 J rfl fun U J=>j0 _ _ (wp_seq_k fun o2 j5=>?_)
  refine nz 2 J rfl fun U J=>bB J G rfl (fun j6 G=>?_) fun j6 G=>?_
  ·refine nz 3 J rfl fun U J=>?_
   replace X:=X.pk 3 |>.pk 3
   replace X:=(aM (x:=(⟨h,z,C,H,I⟩:S58)) X).pk 2
   replace X:=(iS (x:=(⟨(⟨h,z,C,H,I⟩:S58),(⟨a2,a3⟩:S26),a4,a5⟩:S67)) X).drop 1 |>.drop 1 |>.pk 1 |>.pk 1
   cases G
   refine wp_ret (hQ _ _ ?_)
   exact lv2 Tryz.results44 J rfl rfl ⟨a6,a7,rfl,a8,X⟩
  refine wp_skip (j5 _ _ ?_)
  refine ws fun o3 j7=>xk 2 J rfl fun U J=>?_
  replace X:=X.pk 5 |>.pk 1
  obtain⟨j8,j9,X,h1,c7⟩:=SH.freeze (n:=j3) (c:=j4) (A:=j2) X
  replace X:=(X.pk 4).kind (d':=(kM j8 j9 k47)) rfl (aCz c7)
  replace X:=X.pk 4 |>.pk 4
  replace X:=(aM (x:=(⟨h,z,C,H,I⟩:S58)) X).pk 3
  replace X:=(iS (x:=(⟨(⟨h,z,C,H,I⟩:S58),(⟨a2,a3⟩:S26),a4,a5⟩:S67)) X).pk 2 |>.pk 1
  obtain⟨h2,k0,G⟩:=bnd G
  refine x_c aZ0 J rfl (vB k0 X h1 (Imm.sub hG1 (Sub.trans a8 c7)) (Gb.sub hG2 (Sub.trans a8 c7)) :) fun v U w hR J=>?_
  obtain⟨h3,h4,rfl,g3,X⟩:=hR
  have o4:=Imm.sub h1 g3
  replace X:=(X.pk 2).kind (d':=(kM h3 h4 k47)) rfl (aCz g3)
  obtain⟨o5,o6,o7,X⟩:=bG ((mK (X.pk 1)).pk 1)
  refine nk 4 J rfl fun U J=>?_
  replace X:=(iS (x:=h2.2.2) ((aM (x:=h2.2.2.f0) (X.pk 1 |>.pk 1)).pk 1)).drop 1 |>.pk 1 |>.pk 1
  cases G
  refine j7 _ _ (wp_ret ?_)
  refine hQ _ _ (lv2 Tryz.results44 J rfl rfl ?_)
  exact⟨h3,h4,rfl,(Sub.trans (Sub.trans a8 c7) g3),X⟩
 obtain⟨k1,k2,G⟩:=bnd G
 have k3:=G
 have k4:∀a9 b3 b4 b5 b6 b7 b8 b9 c0 c3,(.inl (a9,b3,b4,b5,b6,b7,b8,b9,c0,c3))=k1→∀c4 c5 c8 c9 d0 d1 d2 d3 (h5:Sub Z wz c4 c5) U w,FR 52 [] U [(0,(pP g0)),(6,.slice d1 d2 d3)]→SH r (blk g0 67 [.pointer (some ⟨l0,0,none⟩),.int .i64 b7,.int .i64 b8,.int .i64 b9,.int .i64 c0]::blk l0 58 [.slice c8 c9 d0,.int .i64 b3,.int .i64 b4,.bool b5,.int .i64 b6]::own2 kp64 (kI .u8) 5 (fun x:S64=>x.f1) 64 c8 c9 d0 a9::own (kM c4 c5 k47) 22 d1 d2 d3 c3::zone c4 c5::L) w→h0 U w:=by
  intro a9 b3 b4 b5 b6 b7 b8 b9 c0 c3 ht c4 c5 c8 c9 d0 d1 d2 d3 h5 U w J X
  subst ht
  replace G:lD a9 b3 b4 b5 b6 b7 b8 b9 c0 c3=some y:=G
  unfold lD at G
  exact hb1 a9 b3 b4 b5 b6 b7 b8 b9 c0 c3 G c4 c5 c8 c9 d0 d1 d2 d3 h5 U w (J.sub _ rfl) X
 replace X:=(SH.nil_own (d:=(kM Z wz k47)) (e:=22) X).pk 4 |>.pk 1 |>.pk 3 |>.pk 3 |>.pk 4
 refine aD k2 (fun s U w=>∃S Y d4 d5 d6 d7 d8 d9,Sub Z wz S Y∧Imm S Y kS A1 n1 c1 a1∧FR 52 [] U [(0,(pP g0)),(6,.slice d7 d8 d9),(19,.slice A1 n1 c1),(20,.int .i64 (a1.length:Int)),(21,.int .i64 s.2.2.2.2.2.2.2.2.2.2)]∧SH r (blk g0 67 [.pointer (some ⟨l0,0,none⟩),.int .i64 s.2.2.2.2.2.1,.int .i64 s.2.2.2.2.2.2.1,.int .i64 s.2.2.2.2.2.2.2.1,.int .i64 s.2.2.2.2.2.2.2.2.1]::blk l0 58 [.slice d4 d5 d6,.int .i64 s.2.1,.int .i64 s.2.2.1,.bool s.2.2.2.1,.int .i64 s.2.2.2.2.1]::own2 kp64 (kI .u8) 5 (fun x:S64=>x.f1) 64 d4 d5 d6 s.1::own (kM S Y k47) 22 d7 d8 d9 s.2.2.2.2.2.2.2.2.2.1::zone S Y::L) w) ⟨Z,wz,h9,i0,i1,none,0,0,(Sub.refl _ _),ha1,J.sub _ rfl,X⟩ ?_
 intro o8 k5 k6 G k7 h6 U w hLab
 obtain⟨e0,e1,e2,e3,e4,g4,g5,g6,g7,h7,k8⟩:=k5
 replace G:fA a1 e0 e1 e2 e3 e4 g4 g5 g6 g7 h7 k8=some k6:=G
 unfold fA at G
 try dsimp only at hLab
 obtain⟨S,Y,d4,d5,d6,d7,d8,d9,e5,g8,J,X⟩:=hLab
 refine nz 1 J rfl fun U J=>wp_seq_k fun o9 k9=>bB J G rfl (fun l1 G=>?_) fun l1 G=>?_
 ·refine wp_skip (k9 _ _ ?_)
  refine wp_seq_k fun p0 l2=>aA fun p1 l3=>ws fun p2 l4=>?_
  obtain⟨p3,h8,G⟩:=bnd G
  refine fO lE sz9 (X.imm 4 g8 rfl) h8 J (fun U J=>?_) rfl
  obtain⟨cs,hV,l5⟩:=el (X.imm 4 g8 rfl) h8
  obtain rfl:=hV
  refine aI uu9 (l5 0 _ rfl) J (fun U J=>?_) rfl
  refine x_m J rfl fun U J=>wn (l4 _ _ ?_)
  refine ws fun p4 l6=>xk 2 J rfl fun U J=>?_
  replace X:=X.pk 2 |>.pk 2
  replace X:=(aM (x:=(⟨e0,e1,e2,e3,e4⟩:S58)) X).pk 1
  replace X:=(iS (x:=(⟨(⟨e0,e1,e2,e3,e4⟩:S58),(⟨g4,g5⟩:S26),g6,g7⟩:S67)) X).pk 2 |>.pk 1
  obtain⟨c6,l7,G⟩:=bnd G
  refine x_c bAg J rfl (vA l7 X (Imm.sub hG1 e5) :) fun v U w hR J=>?_
  obtain⟨l8,l9,e6,e7,e8,rfl,e9,X⟩:=hR
  have m0:=Imm.sub g8 e9
  replace X:=(X.pk 3).kind (d':=(kM l8 l9 k47)) rfl (aCz e9)
  obtain⟨m1,m2,m3,X⟩:=bG ((mK (X.pk 2)).pk 1)
  refine xk 2 J rfl fun U J=>?_
  replace X:=X.pk 5 |>.pk 5
  obtain⟨f2,f3,X,m4,f4⟩:=SH.freeze (n:=e7) (c:=e8) (A:=e6) X
  have m5:=Imm.sub m0 f4
  replace X:=(X.pk 4).kind (d':=(kM f2 f3 k47)) rfl (aCz f4)
  refine nk 3 J rfl fun U J=>l6 _ _ (wp_seq_k fun p5 m6=>?_)
  refine nz 2 J rfl fun U J=>bB J G rfl (fun m7 G=>?_) fun m7 G=>?_
  ·refine nz 3 J rfl fun U J=>?_
   replace X:=(iS (x:=c6.2.2) ((aM (x:=c6.2.2.f0) (X.pk 3 |>.pk 3)).pk 3)).drop 1 |>.pk 1 |>.pk 1
   cases G
   refine wp_ret ?_
   have ht:=h6 _ rfl
   subst ht
   replace G:=k3
   replace G:some ([],c6.2.1,c6.2.2)=some y:=G
   cases G
   refine hQ _ _ (lv2 Tryz.results44 J rfl rfl ?_)
   exact⟨f2,f3,rfl,(Sub.trans (Sub.trans e5 e9) f4),X⟩
  refine wp_skip (m6 _ _ ?_)
  refine aC (xk 2 J rfl fun U J=>?_)
  refine gV (d:=(kM f2 f3 k47)) (e:=22) (ps:=#[(0,.slice e6 e7 e8)]) (cells:=[.slice e6 e7 e8]) (xs:=[c6.1]) (fun w=>by kernel_rfl) rfl ⟨[.slice e6 e7 e8],_,rfl,⟨_,_,_,rfl,m4⟩,rfl⟩ J X (fun p6 U w X J=>?_) rfl
  obtain⟨m8,G⟩:=aB G
  have hr:=X.rd 0 rfl
  refine gG 1 aUx qJ J X hr.1 hr.2.1 m8 rfl (fun m9 n0 n3 U w X J=>?_) rfl
  refine x_m J rfl fun U J=>wpList_nil (l3 _ _ ?_)
  refine l2 _ _ (aC ?_)
  refine x_l G J rfl fun p7 _ U J G=>x_m J rfl fun U J=>wpList_nil ?_
  replace X:=X.drop 1 |>.pk 1 |>.pk 1 |>.pk 3 |>.pk 3 |>.pk 4
  cases G
  exact⟨_,k7 _ rfl,f2,f3,m1,m2,m3,m9,n0,n3,(Sub.trans (Sub.trans e5 e9) f4),m5,J.sub _ rfl,X⟩
 cases G
 exact wp_exit (k4 e0 e1 e2 e3 e4 g4 g5 g6 g7 h7 (h6 _ rfl) S Y d4 d5 d6 d7 d8 d9 e5 U w (J.sub _ rfl) X)
theorem aBg {a0 a1 g0 l0 A1 n1 c1 y} (G:nG a0 a1=some y) (X:SH r (obj67 l0 g0 a0::zone Z wz::L) w) (ha1:Imm Z wz k47 A1 n1 c1 a1) (hG1:Imm Z wz (kI .u32) (some ⟨1,0,none⟩) 16 16 dA) (hG2:Gb Z wz 2 .u64 cO) :
  Ret Tryz.prog 29 #[.pointer (some ⟨g0,0,none⟩),.slice A1 n1 c1] w fun v w'=>∃ (Z':Nat→Prop) (wz':World) (B0:Option Addr) (m0:Nat) (d0:Nat),v=.tuple #[(.slice B0 m0 d0),(.int .i64 y.2.1),(.int .i64 y.2.2.1),(.int .i64 y.2.2.2.1)]∧Sub Z wz Z' wz'∧SH r (own k47 47 B0 m0 d0 y.1::obj67 l0 g0 y.2.2.2.2::zone Z' wz'::L) w':=by
 refine aSj Tryz.func29 rfl Tryz.ntmps29 [(0,(pP g0)),(1,.slice A1 n1 c1)] rfl (by simp) ?_
 intro U J Qf hQD
 unfold nG at G
 replace X:SH r (obj67 l0 g0 a0::zone Z wz::jR ([]:List Nat)::L) w:=(SH.marks0 X).sk 2
 obtain⟨C5,C6,C7,X⟩:=bG ((mK X).pk 1)
 refine ws fun C8 u9=>nY J X (fun Y U w X J=>?_) rfl
 refine iC (cs:=[.slice none 0 0]) bA6 J X (fun z U w X J=>?_) rfl
 refine iC (cs:=[.int .i64 0]) zr3 J X (fun C U w X J=>?_) rfl
 refine iC (cs:=[.int .i64 0]) zr3 J X (fun H U w X J=>?_) rfl
 refine iC (cs:=[.int .i64 0]) bB9 J X (fun I U w X J=>?_) rfl
 refine wn (u9 _ _ ?_)
 refine wp_seq_k fun C9 v0=>ws fun D0 v1=>aI aLt (X.cell 4 rfl 0 _ rfl) J (fun U J=>?_) rfl
 refine xk 1 J rfl fun U J=>aL aI8 J (fun U J=>?_) rfl
 refine aI yT (X.cell 7 rfl 0 _ rfl) J (fun U J=>?_) rfl
 replace X:=SH.optS (aM (x:=a0.f0) (X.pk 6 |>.pk 6))
 obtain⟨D1,v2,G⟩:=bnd G
 refine x_c aYp J rfl (zU v2 X :) fun v U w hR J=>?_
 obtain⟨rfl,X⟩:=hR
 obtain⟨a7,v3,G⟩:=bnd G
 rw [v3] at X
 obtain⟨i2,i3,i4,X⟩:=bG (SH.unoptP X)
 refine x_m J rfl fun U J=>wn (v1 _ _ ?_)
 refine nz 2 J rfl fun U J=>bB J G rfl (fun v4 G=>?_) fun v4 G=>?_
 ·refine ws fun D2 v5=>xk 1 J rfl fun U J=>dH 5 aC3 J X rfl (fun  U w X J=>?_) rfl
  refine dH 5 sz3 J X rfl (fun  U w X J=>?_) rfl
  refine dH 5 sz3 J X rfl (fun  U w X J=>?_) rfl
  refine dH 5 aO4 J X rfl (fun  U w X J=>?_) rfl
  refine wn (v5 _ _ ?_)
  refine wp_ret (hQD _ _ _ _ _ _ J (X.pk 9) fun U w J X=>?_)
  have hS0:=X
  replace X:=(aM (x:=a7) ((SH.nil_own (d:=k47) (e:=47) X).pk 6 |>.pk 6)).pk 7
  replace X:=(iS (x:=(⟨a7,a0.f1,a0.f2,a0.f3⟩:S67)) X).drop 2 |>.drop 2 |>.drop 2 |>.drop 2 |>.drop 2 |>.pk 2 |>.pk 1 |>.pk 2
  cases G
  refine aKt Tryz.results29 eT uu3 uu3 aOx (hS0.cell 3 rfl 0 _ rfl) (hS0.cell 2 rfl 0 _ rfl) (hS0.cell 1 rfl 0 _ rfl) (hS0.cell 0 rfl 0 _ rfl) J rfl rfl rfl rfl ?_ rfl
  exact⟨Z,wz,none,0,0,rfl,(Sub.refl _ _),X⟩
 refine wp_skip (v0 _ _ ?_)
 refine ws fun D3 v6=>iC (cs:=[.slice none 0 0]) aWh J X (fun a2 U w X J=>?_) rfl
 refine wn (v6 _ _ ?_)
 refine wp_seq_k fun D4 v7=>ws fun D5 v8=>xk 1 J rfl fun U J=>aI aLt (X.cell 7 rfl 0 _ rfl) J (fun U J=>?_) rfl
 refine xk 1 J rfl fun U J=>aL aRu J (fun U J=>?_) rfl
 refine aL aL6 J (fun U J=>?_) rfl
 refine aI uu3 (X.cell 8 rfl 1 _ rfl) J (fun U J=>?_) rfl
 obtain⟨v9,G⟩:=aB G
 refine x_c aY0 J rfl (yG (L:=blk a2 37 [.slice none 0 0]::blk l0 58 [.slice i2 i3 i4,.int .i64 a7.f1,.int .i64 a7.f2,.bool a7.f3,.int .i64 a7.f4]::own2 kp64 (kI .u8) 5 (fun x:S64=>x.f1) 64 i2 i3 i4 a7.f0::blk I 28 [.int .i64 0]::blk H 3 [.int .i64 0]::blk C 3 [.int .i64 0]::blk z 22 [.slice none 0 0]::blk Y 65 [.pointer (some ⟨g0,0,none⟩)]::blk g0 67 [.pointer (some ⟨l0,0,none⟩),.int .i64 a0.f1.f0,.int .i64 a0.f1.f1,.int .i64 a0.f2,.int .i64 a0.f3]::zone Z wz::jR ([]:List Nat)::L) (A:=A1) (n:=n1) (c:=c1) (k:=a0.f1.f0) v9 X) fun v U w hR J=>?_
 obtain⟨f9,g1,rfl,X⟩:=hR
 refine wn (v8 _ _ ?_)
 refine aA fun D6 w0=>?_
 replace X:=(SH.nil_own (d:=kS) (e:=9) X).pk 12 |>.pk 1 |>.pk 6 |>.pk 4 |>.pk 4 |>.pk 5 |>.pk 7 |>.pk 8 |>.pk 9 |>.pk 10 |>.pk 11 |>.pk 11 |>.pk 12
 obtain⟨D7,q8,G⟩:=bnd G
 obtain⟨i5,q8⟩:=aB q8
 refine aDy (d:=k47) (q:=a0.f1.f0.toNat) chunk_hands47 aYa ⟨by have:=i5.2; omega,by have:=i5.2; omega⟩ q8 (J.sub [(0,(pP g0)),(2,(pP Y)),(4,(pP z)),(5,(pP C)),(6,(pP H)),(7,(pP I)),(9,(pP a2)),(35,.func (.func 52) #[] #[.pointer (some ⟨f9,0,none⟩),(pP g1)])] rfl) (Imm.pieces ha1) i5.1 (fun (s:((List S64)×Int×Int×Bool×Int×Int×Int×Int×Int×(List (List UInt8)))) E=>∃ (c6:Nat→Prop) (c7:World) (a9:Option Addr) (b3:Nat) (b4:Nat) (b5:Option Addr) (b6:Nat) (b7:Nat),Sub Z wz c6 c7∧Imm c6 c7 k47 A1 n1 c1 a1∧E=[blk g0 67 [.pointer (some ⟨l0,0,none⟩),.int .i64 s.2.2.2.2.2.1,.int .i64 s.2.2.2.2.2.2.1,.int .i64 s.2.2.2.2.2.2.2.1,.int .i64 s.2.2.2.2.2.2.2.2.1],blk l0 58 [.slice a9 b3 b4,.int .i64 s.2.1,.int .i64 s.2.2.1,.bool s.2.2.2.1,.int .i64 s.2.2.2.2.1],blk Y 65 [.pointer (some ⟨g0,0,none⟩)],blk z 22 [.slice none 0 0],blk C 3 [.int .i64 0],blk H 3 [.int .i64 0],blk I 28 [.int .i64 0],blk a2 37 [.slice b5 b6 b7],blk f9 22 [.slice A1 n1 c1],blk g1 3 [.int .i64 a0.f1.f0],own2 kp64 (kI .u8) 5 (fun x:S64=>x.f1) 64 a9 b3 b4 s.1,own kS 9 b5 b6 b7 s.2.2.2.2.2.2.2.2.2,zone c6 c7]) (fun (s:((List S64)×Int×Int×Bool×Int×Int×Int×Int×Int×Int)) E=>∃ (i6:Nat→Prop) (i7:World) (i8:Option Addr) (i9:Nat) (j0:Nat),Sub Z wz i6 i7∧E=[blk g0 67 [.pointer (some ⟨l0,0,none⟩),.int .i64 s.2.2.2.2.2.1,.int .i64 s.2.2.2.2.2.2.1,.int .i64 s.2.2.2.2.2.2.2.1,.int .i64 s.2.2.2.2.2.2.2.2.1],blk l0 58 [.slice i8 i9 j0,.int .i64 s.2.1,.int .i64 s.2.2.1,.bool s.2.2.2.1,.int .i64 s.2.2.2.2.1],blk z 22 [.slice none 0 0],blk C 3 [.int .i64 0],blk H 3 [.int .i64 0],blk I 28 [.int .i64 s.2.2.2.2.2.2.2.2.2],own2 kp64 (kI .u8) 5 (fun x:S64=>x.f1) 64 i8 i9 j0 s.1,zone i6 i7]) [blk g0 67 [.pointer (some ⟨l0,0,none⟩),.int .i64 a0.f1.f0,.int .i64 a0.f1.f1,.int .i64 a0.f2,.int .i64 a0.f3],blk l0 58 [.slice i2 i3 i4,.int .i64 a7.f1,.int .i64 a7.f2,.bool a7.f3,.int .i64 a7.f4],blk Y 65 [.pointer (some ⟨g0,0,none⟩)],blk z 22 [.slice none 0 0],blk C 3 [.int .i64 0],blk H 3 [.int .i64 0],blk I 28 [.int .i64 0],blk a2 37 [.slice none 0 0],blk f9 22 [.slice A1 n1 c1],blk g1 3 [.int .i64 a0.f1.f0],own2 kp64 (kI .u8) 5 (fun x:S64=>x.f1) 64 i2 i3 i4 a7.f0,own kS 9 none 0 0 [],zone Z wz] ⟨Z,wz,i2,i3,i4,none,0,0,(Sub.refl _ _),ha1,rfl⟩ X ?_ ?_ ?_ ?_ rfl
 ·rintro s E ⟨c6,c7,a9,b3,b4,b5,b6,b7,d5,m3,rfl⟩
  exact⟨8,9,_,_,_,rfl,rfl,by have:=i5.2; omega⟩
 ·intro lp k j1 w1 E B U w hlt G hX J X Qr hLO hK hKr
  obtain⟨d6,d7,d8,d9,e0,g2,g3,g4,g5,a8⟩:=j1
  try dsimp only at hX
  obtain⟨c6,c7,a9,b3,b4,b5,b6,b7,d5,m3,rfl⟩:=hX
  replace X:SH r (blk g0 67 [.pointer (some ⟨l0,0,none⟩),.int .i64 g2,.int .i64 g3,.int .i64 g4,.int .i64 g5]::blk l0 58 [.slice a9 b3 b4,.int .i64 d7,.int .i64 d8,.bool d9,.int .i64 e0]::blk Y 65 [.pointer (some ⟨g0,0,none⟩)]::blk z 22 [.slice none 0 0]::blk C 3 [.int .i64 0]::blk H 3 [.int .i64 0]::blk I 28 [.int .i64 0]::blk a2 37 [.slice b5 b6 b7]::blk f9 22 [.slice A1 n1 c1]::blk g1 3 [.int .i64 a0.f1.f0]::own2 kp64 (kI .u8) 5 (fun x:S64=>x.f1) 64 a9 b3 b4 d6::own kS 9 b5 b6 b7 a8::zone c6 c7::B) w:=X
  obtain⟨w2,t6,hpv,t7⟩:=Imm.pieceq m3 (by have:=i5.2; omega) hlt
  replace J:=hpv▸J
  clear hpv
  generalize List.take (a0.f1.f0.toNat) (List.drop (k * a0.f1.f0.toNat) a1)=w3 at G t7
  replace G:fV d6 d7 d8 d9 e0 g2 g3 g4 g5 a8 w3=some w1:=G
  unfold fV at G
  refine aBq fun D8 w4=>wpIn_seq_k fun D9 w5=>aUb [0,0,2,7,15,31,31,63,255] [2,3] rfl J X (by kernel_rfl) (by kernel_rfl) (by kernel_rfl) (by kernel_rfl) (by kernel_rfl) hLO fun w X=>⟨[(0,(pP g0)),(1,.slice w2 t6 t6)],?_⟩
  refine dF [0,1] [2] (by kernel_rfl) ⟨pt [(2,_)] rfl (fun U J=>cM aLt (X.cell 2 rfl 0 _ rfl) J rfl rfl rfl),pm rfl,trivial⟩ ⟨et [(39,_)] rfl (fun U J K hK=>?_),trivial⟩
  obtain⟨E0,w6,G⟩:=bnd G
  refine nQ bCd J (aIt w6 X (t7.rdl 12 rfl) :) (fun v w hR=>?_) rfl
  obtain⟨w7,w8,w9,rfl,X⟩:=hR
  refine hK _ [] _ rfl (dF [0] [3] (by kernel_rfl) ⟨pt [(2,_)] rfl (fun U J=>cM aLt (X.cell 3 rfl 0 _ rfl) J rfl rfl rfl),trivial⟩ ⟨et [(38,_),(40,_)] rfl (fun U J K hK=>?_),trivial⟩)
  replace X:=X.pk 13 |>.pk 1
  obtain⟨E1,E2,X,t8,j2⟩:=SH.freeze (n:=w8) (c:=w9) (A:=w7) X
  have x0:=Imm.sub m3 j2
  replace X:=X.pk 11 |>.pk 3
  replace X:=(aM (x:=(⟨d6,d7,d8,d9,e0⟩:S58)) X).pk 2
  replace X:=(iS (x:=(⟨(⟨d6,d7,d8,d9,e0⟩:S58),(⟨g2,g3⟩:S26),g4,g5⟩:S67)) X).pk 1 |>.pk 1
  obtain⟨h,x1,G⟩:=bnd G
  refine nQ aZ0 J (vB x1 X t8 (Imm.sub hG1 (Sub.trans d5 j2)) (Gb.sub hG2 (Sub.trans d5 j2)) :) (fun v w hR=>?_) rfl
  obtain⟨m4,m5,rfl,m6,X⟩:=hR
  have E3:=Imm.sub t8 m6
  have x2:=Imm.sub x0 m6
  obtain⟨g6,g7,g8,X⟩:=bG ((mK X).pk 1)
  refine hK _ [(4,.tuple #[(str h.1),(.int .i64 h.2.1)]),(5,str h.1),(6,.int .i64 h.2.1),(7,str h.1),(8,.int .i64 h.2.1)] _ rfl (gM [4,5,6,7,8] (by kernel_rfl) ⟨pm rfl,pt [(37,.tuple #[(str h.1),(.int .i64 h.2.1)])] rfl (fun U J=>uD rfl (J.ev rfl) rfl),pt [(37,.tuple #[(str h.1),(.int .i64 h.2.1)])] rfl (fun U J=>uD rfl (J.ev rfl) rfl),pm rfl,pm rfl,trivial⟩ ⟨by kernel_rfl,by kernel_rfl⟩ [(0,_),(2,_),(4,_),(5,_),(6,_),(7,_),(9,_),(11,_),(12,_),(35,_)] rfl (fun U J=>?_))
  refine w5 _ _ (wpIn_seq_k fun E4 x3=>?_)
  refine wpIn_seq_k fun E5 x4=>xJ hLO (by kernel_rfl) (nk 2 J rfl fun U J=>?_)
  refine x4 _ _ (aUs J rfl (fun q9=>?_) fun q9=>?_)
  ·replace G:=ift q9 G
   refine wpIn_seq_k fun E6 x5=>xJ hLO (by kernel_rfl) (x_m J rfl fun U J=>?_)
   refine dH 5 aC3 J X rfl (fun  U w X J=>?_) rfl
   refine dH 6 sz3 J X rfl (fun  U w X J=>?_) rfl
   refine dH 7 sz3 J X rfl (fun  U w X J=>?_) rfl
   refine dH 8 aO4 J X rfl (fun  U w X J=>?_) rfl
   refine wn (x5 _ _ ?_)
   refine wpIn_ret ?_
   replace X:=X.drop 8 |>.drop 8 |>.drop 8 |>.drop 8 |>.drop 8 |>.pk 7 |>.pk 6 |>.pk 2 |>.pk 3 |>.pk 4 |>.pk 5 |>.pk 6 |>.pk 7
   obtain rfl:=Option.some.inj G
   exact hKr _ _ _ [blk g0 67 [.pointer (some ⟨l0,0,none⟩),.int .i64 h.2.2.f1.f0,.int .i64 h.2.2.f1.f1,.int .i64 h.2.2.f2,.int .i64 h.2.2.f3],blk l0 58 [.slice g6 g7 g8,.int .i64 h.2.2.f0.f1,.int .i64 h.2.2.f0.f2,.bool h.2.2.f0.f3,.int .i64 h.2.2.f0.f4],blk z 22 [.slice none 0 0],blk C 3 [.int .i64 0],blk H 3 [.int .i64 0],blk I 28 [.int .i64 h.2.1],own2 kp64 (kI .u8) 5 (fun x:S64=>x.f1) 64 g6 g7 g8 h.2.2.f0.f0,zone m4 m5] rfl ⟨m4,m5,g6,g7,g8,(Sub.trans (Sub.trans d5 j2) m6),rfl⟩ X
  replace G:=xM q9 G
  refine wpIn_skip (x3 _ _ ?_)
  refine xJ hLO (by kernel_rfl) (aI lE (X.cell 9 rfl 0 _ rfl) J (fun U J=>?_) rfl)
  refine x_m J rfl fun U J=>gV (d:=kS) (e:=9) (ps:=#[(0,str h.1)]) (cells:=[str h.1]) (xs:=[h.1]) (fun w=>by kernel_rfl) rfl ⟨[str h.1],_,rfl,rfl,rfl⟩ J X (fun E7 U w X J=>?_) rfl
  obtain⟨x6,G⟩:=aB G
  have hr:=X.rd 0 rfl
  refine gG 13 aKd lE J X hr.1 hr.2.1 x6 rfl (fun r0 r1 r2 U w X J=>?_) rfl
  refine dH 11 aSv J X rfl (fun  U w X J=>?_) rfl
  refine wpList_nil ?_
  replace X:=X.drop 2 |>.pk 5 |>.pk 2 |>.pk 4 |>.pk 12 |>.pk 12 |>.pk 5 |>.pk 12 |>.pk 12 |>.pk 12 |>.pk 12 |>.pk 12 |>.pk 11 |>.pk 12
  obtain rfl:=Option.some.inj G
  exact w4 _ _ (hK _ _ _ [blk g0 67 [.pointer (some ⟨l0,0,none⟩),.int .i64 h.2.2.f1.f0,.int .i64 h.2.2.f1.f1,.int .i64 h.2.2.f2,.int .i64 h.2.2.f3],blk l0 58 [.slice g6 g7 g8,.int .i64 h.2.2.f0.f1,.int .i64 h.2.2.f0.f2,.bool h.2.2.f0.f3,.int .i64 h.2.2.f0.f4],blk Y 65 [.pointer (some ⟨g0,0,none⟩)],blk z 22 [.slice none 0 0],blk C 3 [.int .i64 0],blk H 3 [.int .i64 0],blk I 28 [.int .i64 0],blk a2 37 [.slice r0 r1 r2],blk f9 22 [.slice A1 n1 c1],blk g1 3 [.int .i64 a0.f1.f0],own2 kp64 (kI .u8) 5 (fun x:S64=>x.f1) 64 g6 g7 g8 h.2.2.f0.f0,own kS 9 r0 r1 r2 (a8++[h.1]),zone m4 m5] rfl ⟨m4,m5,g6,g7,g8,r0,r1,r2,(Sub.trans (Sub.trans d5 j2) m6),x2,rfl⟩ X)
 ·intro t9 j1 E U w ht hX J X
  subst ht
  obtain⟨d6,d7,d8,d9,e0,g2,g3,g4,g5,a8⟩:=j1
  try dsimp only at hX
  obtain⟨c6,c7,a9,b3,b4,b5,b6,b7,d5,m3,rfl⟩:=hX
  replace X:SH r (blk g0 67 [.pointer (some ⟨l0,0,none⟩),.int .i64 g2,.int .i64 g3,.int .i64 g4,.int .i64 g5]::blk l0 58 [.slice a9 b3 b4,.int .i64 d7,.int .i64 d8,.bool d9,.int .i64 e0]::blk Y 65 [.pointer (some ⟨g0,0,none⟩)]::blk z 22 [.slice none 0 0]::blk C 3 [.int .i64 0]::blk H 3 [.int .i64 0]::blk I 28 [.int .i64 0]::blk a2 37 [.slice b5 b6 b7]::blk f9 22 [.slice A1 n1 c1]::blk g1 3 [.int .i64 a0.f1.f0]::own2 kp64 (kI .u8) 5 (fun x:S64=>x.f1) 64 a9 b3 b4 d6::own kS 9 b5 b6 b7 a8::zone c6 c7::jR (t9::([]:List Nat))::L) w:=X
  replace G:lQ d6 d7 d8 d9 e0 g2 g3 g4 g5 a8=some y:=G
  unfold lQ at G
  refine w0 _ _ (v7 _ _ ?_)
  refine ws fun E8 x7=>aI lE (X.cell 7 rfl 0 _ rfl) J (fun U J=>?_) rfl
  refine aX lE (X.rd 11 rfl).2.1 J (fun U J=>?_) rfl
  refine nk 2 J rfl fun U J=>x7 _ _ (wp_seq_k fun E9 x8=>?_)
  refine aA fun u0 x9=>?_
  have hb1:∀e1 e2 e3 e4 e5 j3 j4 j5 j6 r3 r4,mN a8 e1 e2 e3 e4 e5 j3 j4 j5 j6 r3 r4=some y→∀m7 m8 r5 r6 r7 r8 j7 m9 n0 (n3:Sub Z wz m7 m8) U w,FR 94 (List.map aA0 r5) U [(0,(pP g0)),(2,(pP Y)),(4,(pP z)),(5,(pP C)),(6,(pP H)),(7,(pP I)),(9,(pP a2)),(13,.int .i64 (a8.length:Int)),(14,.int .i64 r4)]→SH r (blk g0 67 [.pointer (some ⟨l0,0,none⟩),.int .i64 j3,.int .i64 j4,.int .i64 j5,.int .i64 j6]::blk l0 58 [.slice r6 r7 r8,.int .i64 e2,.int .i64 e3,.bool e4,.int .i64 e5]::blk Y 65 [.pointer (some ⟨g0,0,none⟩)]::blk z 22 [.slice none 0 0]::blk C 3 [.int .i64 0]::blk H 3 [.int .i64 0]::blk I 28 [.int .i64 0]::blk a2 37 [.slice j7 m9 n0]::own2 kp64 (kI .u8) 5 (fun x:S64=>x.f1) 64 r6 r7 r8 e1::own kS 9 j7 m9 n0 r3::zone m7 m8::jR r5::L) w→u0 U w:=by
   intro e1 e2 e3 e4 e5 j3 j4 j5 j6 r3 r4 G m7 m8 r5 r6 r7 r8 j7 m9 n0 n3 U w J X
   unfold mN at G
   refine x9 _ _ (x8 _ _ ?_)
   refine wp_seq_k fun F1 y0=>nz 2 J rfl fun U J=>bB J G rfl (fun y1 G=>?_) fun y1 G=>?_
   ·refine ws fun F2 y2=>dH 3 aC3 J X rfl (fun  U w X J=>?_) rfl
    refine dH 4 sz3 J X rfl (fun  U w X J=>?_) rfl
    refine dH 5 sz3 J X rfl (fun  U w X J=>?_) rfl
    refine dH 6 aO4 J X rfl (fun  U w X J=>?_) rfl
    refine wn (y2 _ _ ?_)
    refine wp_ret (hQD _ _ _ _ _ _ J (X.pk 11) fun U w J X=>?_)
    have hS0:=X
    replace X:=(SH.nil_own (d:=k47) (e:=47) X).pk 9 |>.pk 7
    replace X:=(aM (x:=(⟨e1,e2,e3,e4,e5⟩:S58)) X).pk 6
    replace X:=(iS (x:=(⟨(⟨e1,e2,e3,e4,e5⟩:S58),(⟨j3,j4⟩:S26),j5,j6⟩:S67)) X).drop 2 |>.drop 2 |>.drop 2 |>.drop 2 |>.drop 2 |>.drop 2 |>.drop 2 |>.pk 2 |>.pk 1 |>.pk 2
    cases G
    refine aKt Tryz.results29 eT uu3 uu3 aOx (hS0.cell 3 rfl 0 _ rfl) (hS0.cell 2 rfl 0 _ rfl) (hS0.cell 1 rfl 0 _ rfl) (hS0.cell 0 rfl 0 _ rfl) J rfl rfl rfl rfl ?_ rfl
    exact⟨m7,m8,none,0,0,rfl,n3,X⟩
   refine wp_skip (y0 _ _ ?_)
   refine wp_seq_k fun F3 y3=>cN [0,0,2,6,15,31,63,63,127,511] [4] rfl J X (by kernel_rfl) (by kernel_rfl) (by kernel_rfl) (by kernel_rfl) fun w X=>?_
   obtain⟨y4,u1,G⟩:=bnd G
   obtain⟨cs,hV,y5⟩:=el (X.rd 9 rfl) u1
   obtain rfl:=hV
   refine⟨[(0,(pP g0)),(1,.slice j7 m9 n0),(2,.pointer (some (ea j7 ((0:Int).toNat * 1)))),(3,str y4)],?_⟩
   refine dF [0,1,2,3] [4] (by kernel_rfl) ⟨pt [(2,_)] rfl (fun U J=>cM aLt (X.cell 2 rfl 0 _ rfl) J rfl rfl rfl),pt [(9,_)] rfl (fun U J=>cM lE (X.cell 7 rfl 0 _ rfl) J rfl rfl rfl),pt [(84,_)] rfl (fun U J=>fH lE sz9 (X.rd 9 rfl) u1 J rfl rfl rfl),pt [(85,_)] rfl (fun U J=>cM uu9 (y5 0 _ rfl) J rfl rfl rfl),trivial⟩ ⟨et [(83,_),(86,_)] rfl (fun U J K hK=>?_),trivial⟩
   replace X:=X.pk 8 |>.pk 2
   replace X:=(aM (x:=(⟨e1,e2,e3,e4,e5⟩:S58)) X).pk 1
   replace X:=(iS (x:=(⟨(⟨e1,e2,e3,e4,e5⟩:S58),(⟨j3,j4⟩:S26),j5,j6⟩:S67)) X).pk 8 |>.pk 1
   obtain⟨e6,y6,G⟩:=bnd G
   refine nQ bAg J (vA y6 X (Imm.sub hG1 n3) :) (fun v w hR=>?_) rfl
   obtain⟨y7,y8,g9,h0,h1,rfl,y9,X⟩:=hR
   obtain⟨F5,F6,F7,X⟩:=bG ((mK (X.pk 1)).pk 1)
   refine hK _ [(5,.tuple #[(.slice g9 h0 h1),(.int .i64 e6.2.1)]),(6,.slice g9 h0 h1),(7,.int .i64 e6.2.1),(8,.slice g9 h0 h1),(9,.int .i64 e6.2.1)] _ rfl (gM [5,6,7,8,9] (by kernel_rfl) ⟨pm rfl,pt [(82,.tuple #[(.slice g9 h0 h1),(.int .i64 e6.2.1)])] rfl (fun U J=>uD rfl (J.ev rfl) rfl),pt [(82,.tuple #[(.slice g9 h0 h1),(.int .i64 e6.2.1)])] rfl (fun U J=>uD rfl (J.ev rfl) rfl),pm rfl,pm rfl,trivial⟩ ⟨by kernel_rfl,by kernel_rfl⟩ [(0,_),(4,_),(5,_),(6,_),(7,_),(13,_),(14,_),(19,_),(20,_)] rfl (fun U J=>?_))
   refine y3 _ _ (ws fun F8 z0=>?_)
   refine xk 4 J rfl fun U J=>dH 6 aC3 J X rfl (fun  U w X J=>?_) rfl
   refine dH 7 sz3 J X rfl (fun  U w X J=>?_) rfl
   refine dH 8 sz3 J X rfl (fun  U w X J=>?_) rfl
   refine dH 9 aO4 J X rfl (fun  U w X J=>?_) rfl
   refine wn (z0 _ _ ?_)
   refine wp_ret (hQD _ _ _ _ _ _ J (X.pk 12) fun U w J X=>?_)
   have hS0:=X
   replace X:=(iS (x:=e6.2.2) ((aM (x:=e6.2.2.f0) (X.pk 5 |>.pk 5)).pk 5)).drop 1 |>.drop 1 |>.drop 1 |>.drop 1 |>.drop 3 |>.drop 3 |>.drop 3 |>.pk 2 |>.pk 1 |>.pk 2
   cases G
   refine aKt Tryz.results29 eT uu3 uu3 aOx (hS0.cell 3 rfl 0 _ rfl) (hS0.cell 2 rfl 0 _ rfl) (hS0.cell 1 rfl 0 _ rfl) (hS0.cell 0 rfl 0 _ rfl) J rfl rfl rfl rfl ?_ rfl
   exact⟨y7,y8,g9,h0,h1,rfl,(Sub.trans n3 y9),X⟩
  obtain⟨z1,z2,G⟩:=bnd G
  have z3:=G
  have z4:∀j8 j9 k0 k1 k2 k3 k4 k5 k6 k7 k8,(.inl (j8,j9,k0,k1,k2,k3,k4,k5,k6,k7,k8))=z1→∀n4 n5 n6 n7 n8 n9 o0 o1 o2 (u2:Sub Z wz n4 n5) U w,FR 94 (List.map aA0 n6) U [(0,(pP g0)),(2,(pP Y)),(4,(pP z)),(5,(pP C)),(6,(pP H)),(7,(pP I)),(9,(pP a2)),(13,.int .i64 (a8.length:Int)),(14,.int .i64 k8)]→SH r (blk g0 67 [.pointer (some ⟨l0,0,none⟩),.int .i64 k3,.int .i64 k4,.int .i64 k5,.int .i64 k6]::blk l0 58 [.slice n7 n8 n9,.int .i64 j9,.int .i64 k0,.bool k1,.int .i64 k2]::blk Y 65 [.pointer (some ⟨g0,0,none⟩)]::blk z 22 [.slice none 0 0]::blk C 3 [.int .i64 0]::blk H 3 [.int .i64 0]::blk I 28 [.int .i64 0]::blk a2 37 [.slice o0 o1 o2]::own2 kp64 (kI .u8) 5 (fun x:S64=>x.f1) 64 n7 n8 n9 j8::own kS 9 o0 o1 o2 k7::zone n4 n5::jR n6::L) w→u0 U w:=by
   intro j8 j9 k0 k1 k2 k3 k4 k5 k6 k7 k8 ht n4 n5 n6 n7 n8 n9 o0 o1 o2 u2 U w J X
   subst ht
   replace G:kY a8 j8 j9 k0 k1 k2 k3 k4 k5 k6 k7 k8=some y:=G
   unfold kY at G
   exact hb1 j8 j9 k0 k1 k2 k3 k4 k5 k6 k7 k8 G n4 n5 n6 n7 n8 n9 o0 o1 o2 u2 U w (J.sub _ rfl) X
  replace X:=X.drop 8 |>.drop 8
  refine aD z2 (fun s U w=>∃o3 o4 d4 c8 c9 d1 a3 a4 a5,Sub Z wz o3 o4∧FR 94 (List.map aA0 d4) U [(0,(pP g0)),(2,(pP Y)),(4,(pP z)),(5,(pP C)),(6,(pP H)),(7,(pP I)),(9,(pP a2)),(13,.int .i64 (a8.length:Int)),(14,.int .i64 s.2.2.2.2.2.2.2.2.2.2)]∧SH r (blk g0 67 [.pointer (some ⟨l0,0,none⟩),.int .i64 s.2.2.2.2.2.1,.int .i64 s.2.2.2.2.2.2.1,.int .i64 s.2.2.2.2.2.2.2.1,.int .i64 s.2.2.2.2.2.2.2.2.1]::blk l0 58 [.slice c8 c9 d1,.int .i64 s.2.1,.int .i64 s.2.2.1,.bool s.2.2.2.1,.int .i64 s.2.2.2.2.1]::blk Y 65 [.pointer (some ⟨g0,0,none⟩)]::blk z 22 [.slice none 0 0]::blk C 3 [.int .i64 0]::blk H 3 [.int .i64 0]::blk I 28 [.int .i64 0]::blk a2 37 [.slice a3 a4 a5]::own2 kp64 (kI .u8) 5 (fun x:S64=>x.f1) 64 c8 c9 d1 s.1::own kS 9 a3 a4 a5 s.2.2.2.2.2.2.2.2.2.1::zone o3 o4::jR d4::L) w) ⟨c6,c7,(t9::([]:List Nat)),a9,b3,b4,b5,b6,b7,d5,J.sub _ rfl,X⟩ ?_
  intro F9 z5 r9 G z6 u3 U w hLab
  obtain⟨o5,o6,o7,o8,o9,p0,a6,p1,p2,p3,p4⟩:=z5
  replace G:cL o5 o6 o7 o8 o9 p0 a6 p1 p2 p3 p4=some r9:=G
  unfold cL at G
  try dsimp only at hLab
  obtain⟨o3,o4,d4,c8,c9,d1,a3,a4,a5,u4,J,X⟩:=hLab
  refine wp_seq_k fun G0 z7=>ws fun G1 z8=>aI lE (X.cell 7 rfl 0 _ rfl) J (fun U J=>?_) rfl
  refine aX lE (X.rd 9 rfl).2.1 J (fun U J=>?_) rfl
  refine nk 1 J rfl fun U J=>z8 _ _ (bB J G rfl (fun z9 G=>?_) fun z9 G=>?_)
  ·refine wp_skip (z7 _ _ ?_)
   refine wp_seq_k fun G2 A0=>aA fun G3 A3=>ws fun G4 A4=>iC (cs:=[.slice none 0 0]) aWh J X (fun e7 U w X J=>?_) rfl
   refine wn (A4 _ _ ?_)
   refine wp_seq_k fun G5 A5=>wp_seq_k fun G6 A6=>cN [0,0,2,6,14,30,63] [6] rfl J X (by kernel_rfl) (by kernel_rfl) (by kernel_rfl) (by kernel_rfl) fun w X=>⟨[(0,.slice a3 a4 a5),(1,(pP g0)),(2,(pP g0)),(3,.pointer (some ⟨g0,1,none⟩)),(4,.pointer (some ⟨g0,2,none⟩)),(5,.int .i64 a6)],?_⟩
   refine dF [0,1,2,3,4,5] [6] (by kernel_rfl) ⟨pt [(9,_)] rfl (fun U J=>cM lE (X.cell 8 rfl 0 _ rfl) J rfl rfl rfl),pt [(2,_)] rfl (fun U J=>cM aLt (X.cell 3 rfl 0 _ rfl) J rfl rfl rfl),pt [(59,_)] rfl (fun U J=>dC rfl (J.ev rfl)),pt [(60,_)] rfl (fun U J=>eR aRu J rfl rfl),pt [(61,_)] rfl (fun U J=>eR aL9 J rfl rfl),pt [(62,_)] rfl (fun U J=>cM uu3 (X.cell 1 rfl 2 _ rfl) J rfl rfl rfl),trivial⟩ ⟨et [(58,_),(63,_)] rfl (fun U J K hK=>?_),trivial⟩
   obtain⟨A7,G⟩:=aB G
   replace X:=X.pk 11 |>.pk 11
   obtain⟨s2,s3,X,u5,A8⟩:=SH.freeze (n:=a4) (c:=a5) (A:=a3) X
   refine nQ bBj J (aD9 (L:=zone s2 s3::blk e7 37 [.slice none 0 0]::blk g0 67 [.pointer (some ⟨l0,0,none⟩),.int .i64 p0,.int .i64 a6,.int .i64 p1,.int .i64 p2]::blk l0 58 [.slice c8 c9 d1,.int .i64 o6,.int .i64 o7,.bool o8,.int .i64 o9]::blk Y 65 [.pointer (some ⟨g0,0,none⟩)]::blk z 22 [.slice none 0 0]::blk C 3 [.int .i64 0]::blk H 3 [.int .i64 0]::blk I 28 [.int .i64 0]::blk a2 37 [.slice a3 a4 a5]::own2 kp64 (kI .u8) 5 (fun x:S64=>x.f1) 64 c8 c9 d1 o5::jR d4::L) (A:=a3) (n:=a4) (c:=a5) (k:=a6) A7 X) (fun v w hR=>?_) rfl
   obtain⟨h2,h3,rfl,X⟩:=hR
   refine hK _ [] _ rfl (gM [] (by kernel_rfl) trivial ⟨by kernel_rfl,by kernel_rfl⟩ [(0,_),(2,_),(4,_),(5,_),(6,_),(7,_),(9,_),(13,_),(14,_),(15,_),(64,_)] rfl (fun U J=>?_))
   refine A6 _ _ (aA fun G7 A9=>?_)
   replace X:=(SH.nil_own (d:=kS) (e:=9) X).pk 3 |>.pk 1 |>.pk 13 |>.pk 4 |>.pk 4 |>.pk 5 |>.pk 13 |>.pk 13 |>.pk 13 |>.pk 13 |>.pk 13 |>.pk 13 |>.pk 13 |>.pk 13
   obtain⟨G8,s4,G⟩:=bnd G
   obtain⟨k9,s4⟩:=aB s4
   refine aDy (d:=kS) (q:=a6.toNat) aIp bCf ⟨by have:=k9.2; omega,by have:=k9.2; omega⟩ s4 (J.sub [(0,(pP g0)),(2,(pP Y)),(4,(pP z)),(5,(pP C)),(6,(pP H)),(7,(pP I)),(9,(pP a2)),(13,.int .i64 (a8.length:Int)),(14,.int .i64 p4),(15,(pP e7)),(64,.func (.func 59) #[] #[.pointer (some ⟨h2,0,none⟩),(pP h3)])] rfl) (Imm.pieces u5) k9.1 (fun (s:((List S64)×Int×Int×Bool×Int×Int×Int×Int×Int×(List (List UInt8)))) E=>∃ (d2:Nat→Prop) (d3:World) (b8:Option Addr) (b9:Nat) (c0:Nat) (c3:Option Addr) (c4:Nat) (c5:Nat),Sub Z wz d2 d3∧Imm d2 d3 kS a3 a4 a5 p3∧E=[blk g0 67 [.pointer (some ⟨l0,0,none⟩),.int .i64 s.2.2.2.2.2.1,.int .i64 s.2.2.2.2.2.2.1,.int .i64 s.2.2.2.2.2.2.2.1,.int .i64 s.2.2.2.2.2.2.2.2.1],blk l0 58 [.slice b8 b9 c0,.int .i64 s.2.1,.int .i64 s.2.2.1,.bool s.2.2.2.1,.int .i64 s.2.2.2.2.1],blk Y 65 [.pointer (some ⟨g0,0,none⟩)],blk z 22 [.slice none 0 0],blk C 3 [.int .i64 0],blk H 3 [.int .i64 0],blk I 28 [.int .i64 0],blk a2 37 [.slice a3 a4 a5],blk e7 37 [.slice c3 c4 c5],blk h2 37 [.slice a3 a4 a5],blk h3 3 [.int .i64 a6],own2 kp64 (kI .u8) 5 (fun x:S64=>x.f1) 64 b8 b9 c0 s.1,own kS 9 c3 c4 c5 s.2.2.2.2.2.2.2.2.2,zone d2 d3]) (fun (s:((List S64)×Int×Int×Bool×Int×Int×Int×Int×Int×Int)) E=>∃ (l1:Nat→Prop) (l2:World) (l3:Option Addr) (l4:Nat) (l5:Nat),Sub Z wz l1 l2∧E=[blk g0 67 [.pointer (some ⟨l0,0,none⟩),.int .i64 s.2.2.2.2.2.1,.int .i64 s.2.2.2.2.2.2.1,.int .i64 s.2.2.2.2.2.2.2.1,.int .i64 s.2.2.2.2.2.2.2.2.1],blk l0 58 [.slice l3 l4 l5,.int .i64 s.2.1,.int .i64 s.2.2.1,.bool s.2.2.2.1,.int .i64 s.2.2.2.2.1],blk z 22 [.slice none 0 0],blk C 3 [.int .i64 0],blk H 3 [.int .i64 0],blk I 28 [.int .i64 s.2.2.2.2.2.2.2.2.2],own2 kp64 (kI .u8) 5 (fun x:S64=>x.f1) 64 l3 l4 l5 s.1,zone l1 l2]) [blk g0 67 [.pointer (some ⟨l0,0,none⟩),.int .i64 p0,.int .i64 a6,.int .i64 p1,.int .i64 p2],blk l0 58 [.slice c8 c9 d1,.int .i64 o6,.int .i64 o7,.bool o8,.int .i64 o9],blk Y 65 [.pointer (some ⟨g0,0,none⟩)],blk z 22 [.slice none 0 0],blk C 3 [.int .i64 0],blk H 3 [.int .i64 0],blk I 28 [.int .i64 0],blk a2 37 [.slice a3 a4 a5],blk e7 37 [.slice none 0 0],blk h2 37 [.slice a3 a4 a5],blk h3 3 [.int .i64 a6],own2 kp64 (kI .u8) 5 (fun x:S64=>x.f1) 64 c8 c9 d1 o5,own kS 9 none 0 0 [],zone s2 s3] ⟨s2,s3,c8,c9,d1,none,0,0,(Sub.trans u4 A8),u5,rfl⟩ X ?_ ?_ ?_ ?_ rfl
   ·rintro s E ⟨d2,d3,b8,b9,c0,c3,c4,c5,e8,p5,rfl⟩
    exact⟨9,10,_,_,_,rfl,rfl,by have:=k9.2; omega⟩
   ·intro lp k l6 B1 E B U w hlt G hX J X Qr hLO hK hKr
    obtain⟨e9,f5,f6,f7,f8,h4,h5,h6,h7,h8⟩:=l6
    try dsimp only at hX
    obtain⟨d2,d3,b8,b9,c0,c3,c4,c5,e8,p5,rfl⟩:=hX
    replace X:SH r (blk g0 67 [.pointer (some ⟨l0,0,none⟩),.int .i64 h4,.int .i64 h5,.int .i64 h6,.int .i64 h7]::blk l0 58 [.slice b8 b9 c0,.int .i64 f5,.int .i64 f6,.bool f7,.int .i64 f8]::blk Y 65 [.pointer (some ⟨g0,0,none⟩)]::blk z 22 [.slice none 0 0]::blk C 3 [.int .i64 0]::blk H 3 [.int .i64 0]::blk I 28 [.int .i64 0]::blk a2 37 [.slice a3 a4 a5]::blk e7 37 [.slice c3 c4 c5]::blk h2 37 [.slice a3 a4 a5]::blk h3 3 [.int .i64 a6]::own2 kp64 (kI .u8) 5 (fun x:S64=>x.f1) 64 b8 b9 c0 e9::own kS 9 c3 c4 c5 h8::zone d2 d3::B) w:=X
    obtain⟨G9,H0,hpv,s5⟩:=Imm.pieceq p5 (by have:=k9.2; omega) hlt
    replace J:=hpv▸J
    clear hpv
    generalize List.take (a6.toNat) (List.drop (k * a6.toNat) p3)=B2 at G s5
    replace G:fB e9 f5 f6 f7 f8 h4 h5 h6 h7 h8 B2=some B1:=G
    unfold fB at G
    refine aBq fun H1 B3=>wpIn_seq_k fun H2 B4=>xJ hLO (by kernel_rfl) (aI aLt (X.cell 2 rfl 0 _ rfl) J (fun U J=>?_) rfl)
    refine x_m J rfl fun U J=>?_
    replace X:=X.pk 11 |>.pk 2
    replace X:=(aM (x:=(⟨e9,f5,f6,f7,f8⟩:S58)) X).pk 1
    replace X:=(iS (x:=(⟨(⟨e9,f5,f6,f7,f8⟩:S58),(⟨h4,h5⟩:S26),h6,h7⟩:S67)) X).pk 11 |>.pk 1
    obtain⟨S,B5,G⟩:=bnd G
    refine x_c bBv J rfl (aBf B5 X s5 (Imm.sub hG1 e8) (Gb.sub hG2 e8) :) fun v U w hR J=>?_
    obtain⟨p6,p7,rfl,p8,X⟩:=hR
    have H3:=Imm.sub s5 p8
    have B6:=Imm.sub p5 p8
    obtain⟨h9,i0,i1,X⟩:=bG ((mK X).pk 1)
    refine nk 5 J rfl fun U J=>B4 _ _ (wpIn_seq_k fun H4 B7=>?_)
    refine wpIn_seq_k fun H5 B8=>xJ hLO (by kernel_rfl) (nk 2 J rfl fun U J=>?_)
    refine B8 _ _ (aUs J rfl (fun s6=>?_) fun s6=>?_)
    ·replace G:=ift s6 G
     refine wpIn_seq_k fun H6 B9=>xJ hLO (by kernel_rfl) (x_m J rfl fun U J=>?_)
     refine dH 5 aC3 J X rfl (fun  U w X J=>?_) rfl
     refine dH 6 sz3 J X rfl (fun  U w X J=>?_) rfl
     refine dH 7 sz3 J X rfl (fun  U w X J=>?_) rfl
     refine dH 8 aO4 J X rfl (fun  U w X J=>?_) rfl
     refine wn (B9 _ _ ?_)
     refine wpIn_ret ?_
     replace X:=X.drop 8 |>.drop 8 |>.drop 8 |>.drop 8 |>.drop 8 |>.drop 8 |>.pk 7 |>.pk 6 |>.pk 2 |>.pk 3 |>.pk 4 |>.pk 5 |>.pk 6 |>.pk 7
     obtain rfl:=Option.some.inj G
     exact hKr _ _ _ [blk g0 67 [.pointer (some ⟨l0,0,none⟩),.int .i64 S.2.2.f1.f0,.int .i64 S.2.2.f1.f1,.int .i64 S.2.2.f2,.int .i64 S.2.2.f3],blk l0 58 [.slice h9 i0 i1,.int .i64 S.2.2.f0.f1,.int .i64 S.2.2.f0.f2,.bool S.2.2.f0.f3,.int .i64 S.2.2.f0.f4],blk z 22 [.slice none 0 0],blk C 3 [.int .i64 0],blk H 3 [.int .i64 0],blk I 28 [.int .i64 S.2.1],own2 kp64 (kI .u8) 5 (fun x:S64=>x.f1) 64 h9 i0 i1 S.2.2.f0.f0,zone p6 p7] rfl ⟨p6,p7,h9,i0,i1,(Sub.trans e8 p8),rfl⟩ X
    replace G:=xM s6 G
    refine wpIn_skip (B7 _ _ ?_)
    refine xJ hLO (by kernel_rfl) (aI lE (X.cell 10 rfl 0 _ rfl) J (fun U J=>?_) rfl)
    refine x_m J rfl fun U J=>gV (d:=kS) (e:=9) (ps:=#[(0,str S.1)]) (cells:=[str S.1]) (xs:=[S.1]) (fun w=>by kernel_rfl) rfl ⟨[str S.1],_,rfl,rfl,rfl⟩ J X (fun H7 U w X J=>?_) rfl
    obtain⟨C0,G⟩:=aB G
    have hr:=X.rd 0 rfl
    refine gG 14 aKd lE J X hr.1 hr.2.1 C0 rfl (fun s7 s8 s9 U w X J=>?_) rfl
    refine dH 12 aSv J X rfl (fun  U w X J=>?_) rfl
    refine wpList_nil ?_
    replace X:=X.drop 2 |>.pk 5 |>.pk 2 |>.pk 4 |>.pk 13 |>.pk 13 |>.pk 5 |>.pk 13 |>.pk 13 |>.pk 13 |>.pk 13 |>.pk 13 |>.pk 13 |>.pk 12 |>.pk 13
    obtain rfl:=Option.some.inj G
    exact B3 _ _ (hK _ _ _ [blk g0 67 [.pointer (some ⟨l0,0,none⟩),.int .i64 S.2.2.f1.f0,.int .i64 S.2.2.f1.f1,.int .i64 S.2.2.f2,.int .i64 S.2.2.f3],blk l0 58 [.slice h9 i0 i1,.int .i64 S.2.2.f0.f1,.int .i64 S.2.2.f0.f2,.bool S.2.2.f0.f3,.int .i64 S.2.2.f0.f4],blk Y 65 [.pointer (some ⟨g0,0,none⟩)],blk z 22 [.slice none 0 0],blk C 3 [.int .i64 0],blk H 3 [.int .i64 0],blk I 28 [.int .i64 0],blk a2 37 [.slice a3 a4 a5],blk e7 37 [.slice s7 s8 s9],blk h2 37 [.slice a3 a4 a5],blk h3 3 [.int .i64 a6],own2 kp64 (kI .u8) 5 (fun x:S64=>x.f1) 64 h9 i0 i1 S.2.2.f0.f0,own kS 9 s7 s8 s9 (h8++[S.1]),zone p6 p7] rfl ⟨p6,p7,h9,i0,i1,s7,s8,s9,(Sub.trans e8 p8),B6,rfl⟩ X)
   ·intro u6 l6 E U w ht hX J X
    subst ht
    obtain⟨e9,f5,f6,f7,f8,h4,h5,h6,h7,h8⟩:=l6
    try dsimp only at hX
    obtain⟨d2,d3,b8,b9,c0,c3,c4,c5,e8,p5,rfl⟩:=hX
    replace X:SH r (blk g0 67 [.pointer (some ⟨l0,0,none⟩),.int .i64 h4,.int .i64 h5,.int .i64 h6,.int .i64 h7]::blk l0 58 [.slice b8 b9 c0,.int .i64 f5,.int .i64 f6,.bool f7,.int .i64 f8]::blk Y 65 [.pointer (some ⟨g0,0,none⟩)]::blk z 22 [.slice none 0 0]::blk C 3 [.int .i64 0]::blk H 3 [.int .i64 0]::blk I 28 [.int .i64 0]::blk a2 37 [.slice a3 a4 a5]::blk e7 37 [.slice c3 c4 c5]::blk h2 37 [.slice a3 a4 a5]::blk h3 3 [.int .i64 a6]::own2 kp64 (kI .u8) 5 (fun x:S64=>x.f1) 64 b8 b9 c0 e9::own kS 9 c3 c4 c5 h8::zone d2 d3::jR (u6::d4)::L) w:=X
    replace G:jA p4 e9 f5 f6 f7 f8 h4 h5 h6 h7 h8=some r9:=G
    unfold jA at G
    refine A9 _ _ (A5 _ _ ?_)
    refine aC (aI lE (X.cell 8 rfl 0 _ rfl) J (fun U J=>?_) rfl)
    refine dH 7 aSv J X rfl (fun  U w X J=>?_) rfl
    refine wpList_nil (A3 _ _ ?_)
    refine A0 _ _ (aC ?_)
    refine x_m J rfl fun U J=>x_l G J rfl fun H8 _ U J G=>x_m J rfl fun U J=>wpList_nil ?_
    replace X:=X.drop 8 |>.drop 8 |>.drop 8 |>.pk 10 |>.pk 10 |>.pk 10 |>.pk 3 |>.pk 10 |>.pk 10 |>.pk 10 |>.pk 10 |>.pk 10 |>.pk 10 |>.pk 10
    cases G
    exact⟨_,z6 _ rfl,d2,d3,(u6::d4),b8,b9,c0,c3,c4,c5,e8,J.sub _ rfl,X⟩
   ·intro C1 l6 E U w ht hX J X
    subst ht
    obtain⟨l7,l8,l9,m1,m2,p9,q0,q1,q2,t0⟩:=l6
    try dsimp only at hX
    obtain⟨l1,l2,l3,l4,l5,C2,rfl⟩:=hX
    replace X:SH r (blk g0 67 [.pointer (some ⟨l0,0,none⟩),.int .i64 p9,.int .i64 q0,.int .i64 q1,.int .i64 q2]::blk l0 58 [.slice l3 l4 l5,.int .i64 l8,.int .i64 l9,.bool m1,.int .i64 m2]::blk z 22 [.slice none 0 0]::blk C 3 [.int .i64 0]::blk H 3 [.int .i64 0]::blk I 28 [.int .i64 t0]::own2 kp64 (kI .u8) 5 (fun x:S64=>x.f1) 64 l3 l4 l5 l7::zone l1 l2::jR (C1::d4)::L) w:=X
    replace G:jD l7 l8 l9 m1 m2 p9 q0 q1 q2 t0=some r9:=G
    unfold jD at G
    refine hQD _ _ _ _ _ _ J (X.pk 8) fun U w J X=>?_
    have hS0:=X
    replace X:=(SH.nil_own (d:=k47) (e:=47) X).pk 7 |>.pk 3
    replace X:=(aM (x:=(⟨l7,l8,l9,m1,m2⟩:S58)) X).pk 2
    replace X:=(iS (x:=(⟨(⟨l7,l8,l9,m1,m2⟩:S58),(⟨p9,q0⟩:S26),q1,q2⟩:S67)) X).drop 2 |>.drop 2 |>.drop 2 |>.drop 2 |>.pk 2 |>.pk 1 |>.pk 2
    cases G
    have ht:=u3 _ rfl
    subst ht
    replace G:=z3
    replace G:some ([],0,0,t0,(⟨(⟨l7,l8,l9,m1,m2⟩:S58),(⟨p9,q0⟩:S26),q1,q2⟩:S67))=some y:=G
    cases G
    refine aKt Tryz.results29 eT uu3 uu3 aOx (hS0.cell 2 rfl 0 _ rfl) (hS0.cell 3 rfl 0 _ rfl) (hS0.cell 4 rfl 0 _ rfl) (hS0.cell 5 rfl 0 _ rfl) J rfl rfl rfl rfl ?_ rfl
    exact⟨l1,l2,none,0,0,rfl,C2,X⟩
  cases G
  exact wp_exit (z4 o5 o6 o7 o8 o9 p0 a6 p1 p2 p3 p4 (u3 _ rfl) o3 o4 d4 c8 c9 d1 a3 a4 a5 u4 U w (J.sub _ rfl) X)
 ·intro C3 j1 E U w ht hX J X
  subst ht
  obtain⟨q3,q4,q5,q6,q7,t1,t3,t4,t5,u7⟩:=j1
  try dsimp only at hX
  obtain⟨i6,i7,i8,i9,j0,C4,rfl⟩:=hX
  replace X:SH r (blk g0 67 [.pointer (some ⟨l0,0,none⟩),.int .i64 t1,.int .i64 t3,.int .i64 t4,.int .i64 t5]::blk l0 58 [.slice i8 i9 j0,.int .i64 q4,.int .i64 q5,.bool q6,.int .i64 q7]::blk z 22 [.slice none 0 0]::blk C 3 [.int .i64 0]::blk H 3 [.int .i64 0]::blk I 28 [.int .i64 u7]::own2 kp64 (kI .u8) 5 (fun x:S64=>x.f1) 64 i8 i9 j0 q3::zone i6 i7::jR (C3::([]:List Nat))::L) w:=X
  replace G:lL q3 q4 q5 q6 q7 t1 t3 t4 t5 u7=some y:=G
  unfold lL at G
  refine hQD _ _ _ _ _ _ J (X.pk 8) fun U w J X=>?_
  have hS0:=X
  replace X:=(SH.nil_own (d:=k47) (e:=47) X).pk 7 |>.pk 3
  replace X:=(aM (x:=(⟨q3,q4,q5,q6,q7⟩:S58)) X).pk 2
  replace X:=(iS (x:=(⟨(⟨q3,q4,q5,q6,q7⟩:S58),(⟨t1,t3⟩:S26),t4,t5⟩:S67)) X).drop 2 |>.drop 2 |>.drop 2 |>.drop 2 |>.pk 2 |>.pk 1 |>.pk 2
  cases G
  refine aKt Tryz.results29 eT uu3 uu3 aOx (hS0.cell 2 rfl 0 _ rfl) (hS0.cell 3 rfl 0 _ rfl) (hS0.cell 4 rfl 0 _ rfl) (hS0.cell 5 rfl 0 _ rfl) J rfl rfl rfl rfl ?_ rfl
  exact⟨i6,i7,none,0,0,rfl,C4,X⟩
theorem xH {a0 a1 a2 a3 p0 A1 n1 c1 y} (G:mA a0 a1 a2 a3=some y) (X:SH r (sB (obj58) p0 a0::zone Z wz::L) w) (ha1:Imm Z wz k47 A1 n1 c1 a1) (hG1:Imm Z wz (kI .u32) (some ⟨1,0,none⟩) 16 16 dA) (hG2:Gb Z wz 2 .u64 cO) :
  Ret Tryz.prog 13 #[.pointer p0,.slice A1 n1 c1,.int .i64 a2,.agg #[.int .i64 a3.f0,.int .i64 a3.f1]] w fun v w'=>∃ (Z':Nat→Prop) (wz':World) (B0:Option Addr) (m0:Nat) (d0:Nat),v=.tuple #[(.slice B0 m0 d0),(.int .i64 y.2.1),(.int .i64 y.2.2.1),(.int .i64 y.2.2.2.1)]∧Sub Z wz Z' wz'∧SH r (own k47 47 B0 m0 d0 y.1::sB (obj58) p0 y.2.2.2.2::zone Z' wz'::L) w':=by
 refine enter Tryz.func13 rfl Tryz.ntmps13 [(0,_),(1,_),(2,_),(3,_)] rfl (by simp) ?_
 intro U J Qf hQ hQn
 unfold mA at G
 cases a0 with
 | none =>
  have hU:=SH.unoptN X
  clear X
  obtain⟨rfl,X⟩:=hU
  refine ws fun i5 c9=>nY J X (fun i6 U w X J=>?_) rfl
  refine nk 4 J rfl fun U J=>c9 _ _ (wp_seq_k fun i7 i8=>?_)
  refine aA fun i9 j0=>ws fun j1 d1=>xk 1 J rfl fun U J=>x_v (v:=.bool true) J (uM (p:=none) yT rfl (J.ev rfl) (J.ev rfl)) rfl fun U J=>x_m J rfl fun U J=>wn (d1 _ _ ?_)
  refine c_t (b:=true) rfl J ?_ rfl
  refine nz 4 J rfl fun U J=>?_
  replace X:=(SH.optN (obj58) (SH.nil_own (d:=k47) (e:=47) X)).drop 2 |>.pk 2 |>.pk 1 |>.pk 2
  cases G
  refine wp_ret (hQ _ _ ?_)
  exact lv4 Tryz.results13 J rfl rfl rfl rfl ⟨Z,wz,none,0,0,rfl,(Sub.refl _ _),X⟩
 | some z =>
  have hU:=SH.unoptS X
  clear X
  obtain⟨C,rfl,X⟩:=hU
  obtain⟨Y,a4,a5,X⟩:=bG X
  refine ws fun j2 d2=>nY J X (fun H U w X J=>?_) rfl
  refine nk 4 J rfl fun U J=>d2 _ _ (wp_seq_k fun j3 d3=>?_)
  refine aA fun j4 d4=>ws fun j5 d5=>xk 1 J rfl fun U J=>x_v (v:=.bool false) J (uM (p:=some ⟨C,0,none⟩) yT rfl (J.ev rfl) (J.ev rfl)) rfl fun U J=>x_m J rfl fun U J=>wn (d5 _ _ ?_)
  refine c_f (b:=false) rfl J ?_ rfl
  refine wp_seq_k fun d6 d7=>?_
  have hj1:∀b5,kR a1 a2 a3 z b5=some y→∀U w,FR 68 [] U [(0,(pP C)),(1,.slice A1 n1 c1),(2,.int .i64 a2),(7,(pP H)),(22,.bool b5)]→SH r (blk C 58 [.slice Y a4 a5,.int .i64 z.f1,.int .i64 z.f2,.bool z.f3,.int .i64 z.f4]::blk H 26 [.int .i64 a3.f0,.int .i64 a3.f1]::own2 kp64 (kI .u8) 5 (fun x:S64=>x.f1) 64 Y a4 a5 z.f0::zone Z wz::L) w→d6 U w:=by
   intro b5 G U w J X
   unfold kR at G
   refine d7 _ _ (bB J G rfl (fun d8 G=>?_) fun d8 G=>?_)
   ·refine nz 4 J rfl fun U J=>?_
    replace X:=(SH.optS (aM (x:=z) ((SH.nil_own (d:=k47) (e:=47) X).pk 3 |>.pk 2))).drop 2 |>.pk 2 |>.pk 1 |>.pk 2
    cases G
    refine wp_ret (hQ _ _ ?_)
    exact lv4 Tryz.results13 J rfl rfl rfl rfl ⟨Z,wz,none,0,0,rfl,(Sub.refl _ _),X⟩
   refine wp_skip (d4 _ _ ?_)
   refine d3 _ _ (wp_seq_k fun j6 d9=>?_)
   refine ws fun j7 e0=>xk 1 J rfl fun U J=>aX eT (X.imm 3 ha1 rfl).2.1 J (fun U J=>?_) rfl
   refine x_m J rfl fun U J=>wn (e0 _ _ ?_)
   refine aA fun c6 e1=>?_
   have hb1:sY a1 a2 a3 z=some y→∀U w,FR 68 [] U [(0,(pP C)),(1,.slice A1 n1 c1),(2,.int .i64 a2),(7,(pP H))]→SH r (blk C 58 [.slice Y a4 a5,.int .i64 z.f1,.int .i64 z.f2,.bool z.f3,.int .i64 z.f4]::blk H 26 [.int .i64 a3.f0,.int .i64 a3.f1]::own2 kp64 (kI .u8) 5 (fun x:S64=>x.f1) 64 Y a4 a5 z.f0::zone Z wz::L) w→c6 U w:=by
    intro G U w J X
    unfold sY at G
    refine e1 _ _ (d9 _ _ ?_)
    refine ws fun j8 e2=>xk 1 J rfl fun U J=>nF (ad:=⟨H,0,none⟩) (cs:=[.int .i64 a3.f0,.int .i64 a3.f1]) bAf aY8 (fun j u h=>by rw [nC,Nat.zero_add]; exact X.cell 1 rfl j u h) J (fun U J=>?_) rfl
    refine x_m J rfl fun U J=>x_v (v:=.agg #[.pointer (some ⟨C,0,none⟩),.int .i64 a3.f0,.int .i64 a3.f1,.int .i64 a2,.int .i64 0]) J (nU (ps:=#[(0,(pP C)),(1,.agg #[.int .i64 a3.f0,.int .i64 a3.f1]),(2,.int .i64 a2)]) rfl (qP J rfl) (fun w=>by kernel_rfl)) rfl fun U J=>nY J X (fun j9 U w X J=>?_) rfl
    refine x_m J rfl fun U J=>wn (e2 _ _ ?_)
    refine ws fun k0 e3=>xk 2 J rfl fun U J=>?_
    replace X:=(aM (x:=z) (X.pk 3 |>.pk 2)).pk 1
    replace X:=(iS (x:=(⟨z,a3,a2,0⟩:S67)) X).pk 2 |>.pk 1
    obtain⟨S,e4,G⟩:=bnd G
    refine x_c bA9 J rfl (aBg e4 X ha1 hG1 hG2 :) fun v U w hR J=>?_
    obtain⟨b6,b7,e5,e6,e7,rfl,b8,X⟩:=hR
    have k1:=Imm.sub ha1 b8
    obtain⟨e8,e9,f5,X⟩:=bG ((mK (X.pk 1)).pk 1)
    refine nk 9 J rfl fun U J=>e3 _ _ (wp_seq_k fun k2 f6=>?_)
    refine nz 2 J rfl fun U J=>bB J G rfl (fun f7 G=>?_) fun f7 G=>?_
    ·refine wp_seq_k fun f8 f9=>?_
     have hj2:∀a7 a8 a9 b3 b4,sD S a7 a8 a9 b3 b4=some y→∀b9 c0 c3 U w,FR 68 [] U [(0,(pP C)),(18,.int .i64 S.2.2.2.1)]→SH r (blk C 58 [.slice b9 c0 c3,.int .i64 a8,.int .i64 a9,.bool b3,.int .i64 b4]::own2 kp64 (kI .u8) 5 (fun x:S64=>x.f1) 64 b9 c0 c3 a7::zone b6 b7::L) w→f8 U w:=by
      intro a7 a8 a9 b3 b4 G b9 c0 c3 U w J X
      unfold sD at G
      refine f9 _ _ (nz 5 J rfl fun U J=>?_)
      replace X:=(SH.nil_own (d:=k47) (e:=47) X).pk 2 |>.pk 2
      replace X:=(SH.optS (aM (x:=(⟨a7,a8,a9,b3,b4⟩:S58)) X)).pk 2 |>.pk 1 |>.pk 2
      cases G
      refine wp_ret (hQ _ _ ?_)
      exact lv4 Tryz.results13 J rfl rfl rfl rfl ⟨b6,b7,none,0,0,rfl,b8,X⟩
     refine nz 2 J rfl fun U J=>bB J G rfl (fun g0 G=>?_) fun g0 G=>?_
     ·refine aC (x_m J rfl fun U J=>?_)
      replace X:=SH.optS (aM (x:=S.2.2.2.2.f0) (X.pk 1 |>.pk 1))
      obtain⟨k3,g1,G⟩:=bnd G
      refine x_c aYp J rfl (zU g1 X :) fun v U w hR J=>?_
      obtain⟨rfl,X⟩:=hR
      obtain⟨a6,g2,G⟩:=bnd G
      rw [g2] at X
      obtain⟨g3,g4,g5,X⟩:=bG (SH.unoptP X)
      refine wpList_nil ?_
      replace X:=X.drop 2 |>.drop 2 |>.drop 3
      exact hj2 a6.f0 a6.f1 a6.f2 a6.f3 a6.f4 G g3 g4 g5 U w (J.sub _ rfl) X
     replace X:=X.drop 2 |>.drop 2 |>.drop 3
     exact wp_skip (hj2 S.2.2.2.2.f0.f0 S.2.2.2.2.f0.f1 S.2.2.2.2.f0.f2 S.2.2.2.2.f0.f3 S.2.2.2.2.f0.f4 G e8 e9 f5 U w (J.sub _ rfl) X)
    refine wp_skip (f6 _ _ ?_)
    refine nz 7 J rfl fun U J=>?_
    replace X:=(SH.optS (aM (x:=S.2.2.2.2.f0) (X.pk 1 |>.pk 1))).drop 1 |>.drop 3 |>.pk 2 |>.pk 1 |>.pk 2
    cases G
    refine wp_ret (hQ _ _ ?_)
    exact lv4 Tryz.results13 J rfl rfl rfl rfl ⟨b6,b7,e5,e6,e7,rfl,b8,X⟩
   obtain⟨g6,g7,G⟩:=bnd G
   have g8:=G
   have g9:(.inl ())=g6→∀U w,FR 68 [] U [(0,(pP C)),(1,.slice A1 n1 c1),(2,.int .i64 a2),(7,(pP H))]→SH r (blk C 58 [.slice Y a4 a5,.int .i64 z.f1,.int .i64 z.f2,.bool z.f3,.int .i64 z.f4]::blk H 26 [.int .i64 a3.f0,.int .i64 a3.f1]::own2 kp64 (kI .u8) 5 (fun x:S64=>x.f1) 64 Y a4 a5 z.f0::zone Z wz::L) w→c6 U w:=by
    intro ht U w J X
    subst ht
    replace G:qF a1 a2 a3 z=some y:=G
    unfold qF at G
    exact hb1 G U w (J.sub _ rfl) X
   refine aD g7 (fun s U w=>FR 68 [] U [(0,(pP C)),(1,.slice A1 n1 c1),(2,.int .i64 a2),(7,(pP H)),(34,.slice A1 n1 c1),(35,.int .i64 (a1.length:Int)),(36,.int .i64 s)]∧SH r (blk C 58 [.slice Y a4 a5,.int .i64 z.f1,.int .i64 z.f2,.bool z.f3,.int .i64 z.f4]::blk H 26 [.int .i64 a3.f0,.int .i64 a3.f1]::own2 kp64 (kI .u8) 5 (fun x:S64=>x.f1) 64 Y a4 a5 z.f0::zone Z wz::L) w) ⟨J.sub _ rfl,X⟩ ?_
   intro k4 h0 h1 G h2 c7 U w hLab
   obtain⟨h3,rfl⟩:∃ q,q=h0:=⟨_,rfl⟩
   replace G:iD a1 a2 z h3=some h1:=G
   unfold iD at G
   try dsimp only at hLab
   obtain⟨J,X⟩:=hLab
   refine nz 1 J rfl fun U J=>wp_seq_k fun k5 h4=>bB J G rfl (fun h5 G=>?_) fun h5 G=>?_
   ·refine wp_skip (h4 _ _ ?_)
    refine wp_seq_k fun k6 h6=>aA fun k7 h7=>ws fun k8 h8=>?_
    obtain⟨I,c8,G⟩:=bnd G
    refine fO eT cI (X.imm 3 ha1 rfl) c8 J (fun U J=>?_) rfl
    obtain⟨cs,hV,h9⟩:=el (X.imm 3 ha1 rfl) c8
    obtain rfl:=hV
    refine nF (cs:=[.int .u64 I.f0,.int .i64 I.f1,.int .i64 I.f2,str I.f3,.float .f64 I.f4]) mG cI (fun j u h=>by rw [fG]; exact h9 _ _ h) J (fun U J=>?_) rfl
    refine iC (cs:=[.int .u64 0,.int .i64 0,.int .i64 0,str [],.float .f64 0]) aJ5 J X (fun i0 U w X J=>?_) rfl
    refine dH 0 cI J X rfl (fun  U w X J=>?_) rfl
    refine wn (h8 _ _ ?_)
    refine ws fun k9 i1=>nF (ad:=⟨i0,0,none⟩) (cs:=[.int .u64 I.f0,.int .i64 I.f1,.int .i64 I.f2,str I.f3,.float .f64 I.f4]) mG cI (fun j u h=>by rw [nC,Nat.zero_add]; exact X.cell 0 rfl j u h) J (fun U J=>?_) rfl
    refine x_m J rfl fun U J=>?_
    obtain⟨l0,i2,G⟩:=bnd G
    refine x_c aYx J rfl (aCf i2 X :) fun v U w hR J=>?_
    obtain⟨rfl,X⟩:=hR
    refine nk 1 J rfl fun U J=>i1 _ _ (bB J G rfl (fun i3 G=>?_) fun i3 G=>?_)
    ·refine nz 4 J rfl fun U J=>?_
     replace X:=(SH.optS (aM (x:=z) ((SH.nil_own (d:=k47) (e:=47) X).pk 4 |>.pk 3))).drop 2 |>.drop 2 |>.pk 2 |>.pk 1 |>.pk 2
     cases G
     refine wp_ret ?_
     have ht:=c7 _ rfl
     subst ht
     replace G:=g8
     replace G:some ([],0,0,3,some z)=some y:=G
     cases G
     refine hQ _ _ (lv4 Tryz.results13 J rfl rfl rfl rfl ?_)
     exact⟨Z,wz,none,0,0,rfl,(Sub.refl _ _),X⟩
    refine wp_skip (h7 _ _ ?_)
    refine h6 _ _ (aC ?_)
    refine x_l G J rfl fun l1 _ U J G=>x_m J rfl fun U J=>wpList_nil ?_
    replace X:=X.drop 0
    cases G
    exact⟨_,h2 _ rfl,J.sub _ rfl,X⟩
   cases G
   exact wp_exit (g9 (c7 _ rfl) U w (J.sub _ rfl) X)
  refine aC (nF (ad:=⟨H,0,none⟩) (cs:=[.int .i64 a3.f0,.int .i64 a3.f1]) bAf aY8 (fun j u h=>by rw [nC,Nat.zero_add]; exact X.cell 0 rfl j u h) J (fun U J=>?_) rfl)
  obtain⟨l2,i4,G⟩:=bnd G
  refine x_c bA5 J rfl (aBn i4 X :) fun v U w hR J=>?_
  obtain⟨rfl,X⟩:=hR
  refine xk 2 J rfl fun U J=>bcG G (fun c4 G=>?_) fun c4 G=>?_
  ·refine xg 4 c4 J rfl rfl fun U J=>xO 2 rfl J rfl fun U J=>oA rfl J (fun U J=>?_) rfl
   refine x_m J rfl fun U J=>wpList_nil ?_
   replace X:=X.pk 3 |>.pk 3 |>.pk 2 |>.pk 3
   exact hj1 true G U w (J.sub _ rfl) X
  refine xg 4 c4 J rfl rfl fun U J=>bcG G (fun c5 G=>?_) fun c5 G=>?_
  ·refine ng 4 c5 J rfl rfl fun U J=>?_
   replace X:=X.pk 3 |>.pk 3 |>.pk 2 |>.pk 3
   exact hj1 true G U w (J.sub _ rfl) X
  refine ng 4 c5 J rfl rfl fun U J=>?_
  replace X:=X.pk 3 |>.pk 3 |>.pk 2 |>.pk 3
  exact hj1 (decide (8<a2)) G U w (J.sub _ rfl) X
end
noncomputable section
set_option linter.unusedSimpArgs false
def sW (z:((Option S58)×Int)) (C:(List S47)):Option (Bool) :=
  (mA z.1 C 1 (⟨2,2⟩:S26)).bind fun h=>(if (h.2.2.2.1==0)=true then (if ((h.1.length:Int)==10)=true then ((at_ h.1 0).bind fun G=>(if (G.f2==(-9))=true then (if (h.2.1==5)=true then (some (h.2.2.1==3)) else (some false)) else (some false))) else (some false)) else (some false))
def qD (h:((Option S58)×Int)) (z:(List S47)):Option (Bool) :=
  sW h z
def gX (z:(List S47)) (h:Int):Option (((List S47)×Int)⊕(((List S47)))) :=
  if (decide (h<10))=true then (chk (z.length+[(⟨0,0,IntKind.i64.wrap (0 - h),[],0⟩:S47)].length≤140737488355328 / 48) (ltt (IntKind.i64.wrap (h+1)) fun C=>(some (.inl (z++[(⟨0,0,IntKind.i64.wrap (0 - h),[],0⟩:S47)],C))))) else (some (.inr (z)))
def uK:Option (Bool) :=
  (wE 65536).bind fun h=>((loop (fun s=>gX s.1 s.2) ([],0)).bind fun t=>qD h t)
end
section
variable {r:World} {L:List HP} {w:World} {Z:Nat→Prop} {wz:World}
theorem aGw {y} (G:uK=some y) (X:SH r (zone Z wz::L) w) (hG1:Imm Z wz (kI .u32) (some ⟨1,0,none⟩) 16 16 dA) (hG2:Gb Z wz 2 .u64 cO) :
  Ret Tryz.prog 9 #[] w fun v w'=>∃ (Z':Nat→Prop) (wz':World),v=.bool y∧Sub Z wz Z' wz'∧SH r (zone Z' wz'::L) w':=by
 refine enter Tryz.func9 rfl Tryz.ntmps9 [] rfl (by simp) ?_
 intro U J Qf hQ hQn
 unfold uK at G
 refine nz 1 J rfl fun U J=>ws fun e7 c5=>?_
 obtain⟨S,c6,G⟩:=bnd G
 refine x_c aXu J rfl (aD1 c6 X :) fun v U w hR J=>?_
 obtain⟨H,rfl,X⟩:=hR
 refine nk 5 J rfl fun U J=>c5 _ _ (nz 1 J rfl fun U J=>?_)
 refine wp_seq_k fun e8 c7=>nz 1 J rfl fun U J=>aA fun b9 c8=>?_
 have hb1:∀b6,sW S b6=some y→∀a4 a5 a6 U w,FR 54 [] U [(1,.pointer H),(3,.slice a4 a5 a6)]→SH r (sB (obj58) H S.1::own k47 47 a4 a5 a6 b6::zone Z wz::L) w→b9 U w:=by
  intro b6 G a4 a5 a6 U w J X
  unfold sW at G
  refine c8 _ _ (c7 _ _ ?_)
  refine ws fun e9 c9=>xk 2 J rfl fun U J=>x_v (v:=.agg #[.int .i64 2,.int .i64 2]) J (nU (ps:=#[(0,.int .i64 2),(1,.int .i64 2)]) rfl (qP J rfl) (fun w=>by kernel_rfl)) rfl fun U J=>?_
  replace X:=X.pk 2 |>.pk 2
  obtain⟨f2,f3,X,c0,h⟩:=SH.freeze (n:=a5) (c:=a6) (A:=a4) X
  replace X:=X.pk 1
  obtain⟨f4,d0,G⟩:=bnd G
  refine x_c aXi J rfl (xH d0 X c0 (Imm.sub hG1 h) (Gb.sub hG2 h) :) fun v U w hR J=>?_
  obtain⟨Y,a0,f5,f6,f7,rfl,I,X⟩:=hR
  have f8:=Imm.sub c0 I
  refine nk 9 J rfl fun U J=>c9 _ _ (ws fun f9 a1=>?_)
  refine xk 3 J rfl fun U J=>bcG G (fun a2 G=>?_) fun a2 G=>?_
  ·refine xg 1 a2 J rfl rfl fun U J=>aO a2 J ?_ rfl
   refine aX eT (X.rd 0 rfl).2.1 J (fun U J=>?_) rfl
   refine xg 3 a2 J rfl rfl fun U J=>bcG G (fun z G=>?_) fun z G=>?_
   ·refine xg 1 z J rfl rfl fun U J=>aO z J ?_ rfl
    obtain⟨g0,c3,G⟩:=bnd G
    refine fO eT cI (X.rd 0 rfl) c3 J (fun U J=>?_) rfl
    refine aO z J ?_ rfl
    refine aV0 (m:=(0:Int).toNat * 5) jN J (fun U J=>?_) rfl rfl rfl rfl rfl
    refine aO z J ?_ rfl
    obtain⟨cs,hV,d1⟩:=el (X.rd 0 rfl) c3
    obtain rfl:=hV
    refine aI uu2 (d1 2 _ rfl) J (fun U J=>?_) rfl
    refine xg 3 z J rfl rfl fun U J=>bcG G (fun b7 G=>?_) fun b7 G=>?_
    ·refine xg 4 b7 J rfl rfl fun U J=>bcG G (fun b8 G=>?_) fun b8 G=>?_
     ·refine ng 4 b8 J rfl rfl fun U J=>?_
      replace X:=X.drop 0 |>.drop 0
      cases G
      refine a1 _ _ (wp_ret ?_)
      refine hQ _ _ (lv Tryz.results9 J rfl ?_)
      exact⟨Y,a0,rfl,(Sub.trans h I),X⟩
     refine ng 4 b8 J rfl rfl fun U J=>?_
     replace X:=X.drop 0 |>.drop 0
     cases G
     refine a1 _ _ (wp_ret ?_)
     refine hQ _ _ (lv Tryz.results9 J rfl ?_)
     exact⟨Y,a0,rfl,(Sub.trans h I),X⟩
    refine xg 4 b7 J rfl rfl fun U J=>xO 2 rfl J rfl fun U J=>cG rfl J (fun U J=>?_) rfl
    refine x_m J rfl fun U J=>wn (a1 _ _ ?_)
    replace X:=X.drop 0 |>.drop 0
    cases G
    refine wp_ret (hQ _ _ ?_)
    exact lv Tryz.results9 J rfl ⟨Y,a0,rfl,(Sub.trans h I),X⟩
   refine xg 7 z J rfl rfl fun U J=>xO 2 rfl J rfl fun U J=>cG rfl J (fun U J=>?_) rfl
   refine x_m J rfl fun U J=>xO 2 rfl J rfl fun U J=>cG rfl J (fun U J=>?_) rfl
   refine x_m J rfl fun U J=>wn (a1 _ _ ?_)
   replace X:=X.drop 0 |>.drop 0
   cases G
   refine wp_ret (hQ _ _ ?_)
   exact lv Tryz.results9 J rfl ⟨Y,a0,rfl,(Sub.trans h I),X⟩
  refine xg 5 a2 J rfl rfl fun U J=>xO 5 rfl J rfl fun U J=>cG rfl J (fun U J=>?_) rfl
  refine x_m J rfl fun U J=>xO 2 rfl J rfl fun U J=>cG rfl J (fun U J=>?_) rfl
  refine x_m J rfl fun U J=>xO 2 rfl J rfl fun U J=>cG rfl J (fun U J=>?_) rfl
  refine x_m J rfl fun U J=>wn (a1 _ _ ?_)
  replace X:=X.drop 0 |>.drop 0
  cases G
  refine wp_ret (hQ _ _ ?_)
  exact lv Tryz.results9 J rfl ⟨Y,a0,rfl,(Sub.trans h I),X⟩
 obtain⟨d2,d3,G⟩:=bnd G
 have d4:∀a3,(a3)=d2→∀a7 a8 a9 U w,FR 54 [] U [(1,.pointer H),(3,.slice a7 a8 a9)]→SH r (sB (obj58) H S.1::own k47 47 a7 a8 a9 a3::zone Z wz::L) w→b9 U w:=by
  intro a3 ht a7 a8 a9 U w J X
  subst ht
  replace G:qD S a3=some y:=G
  unfold qD at G
  exact hb1 a3 G a7 a8 a9 U w (J.sub _ rfl) X
 replace X:=(SH.nil_own (d:=k47) (e:=47) X).pk 2 |>.pk 1 |>.pk 2
 refine aD d3 (fun s U w=>∃b3 b4 b5,FR 54 [] U [(1,.pointer H),(3,.slice b3 b4 b5),(4,.int .i64 s.2)]∧SH r (sB (obj58) H S.1::own k47 47 b3 b4 b5 s.1::zone Z wz::L) w) ⟨none,0,0,J.sub _ rfl,X⟩ ?_
 intro g1 d5 d6 G d7 d8 U w hLab
 obtain⟨c4,C⟩:=d5
 replace G:gX c4 C=some d6:=G
 unfold gX at G
 try dsimp only at hLab
 obtain⟨b3,b4,b5,J,X⟩:=hLab
 refine wp_seq_k fun g2 d9=>nz 2 J rfl fun U J=>bB J G rfl (fun e0 G=>?_) fun e0 G=>?_
 ·refine wp_skip (d9 _ _ ?_)
  refine wp_seq_k fun g3 e1=>aA fun g4 e2=>aC (xk 2 J rfl fun U J=>?_)
  refine x_v J (aVd rfl (J.ev rfl)) rfl fun U J=>x_v (v:=.agg #[.int .u64 0,.int .i64 0,.int .i64 (IntKind.i64.wrap (0 - C)),str [],.float .f64 0]) J (nU (ps:=#[(2,.int .i64 (IntKind.i64.wrap (0 - C)))]) rfl (qP J rfl) (fun w=>by kernel_rfl)) rfl fun U J=>gV (d:=k47) (e:=47) (ps:=#[(0,.agg #[.int .u64 0,.int .i64 0,.int .i64 (IntKind.i64.wrap (0 - C)),str [],.float .f64 0])]) (cells:=[.int .u64 0,.int .i64 0,.int .i64 (IntKind.i64.wrap (0 - C)),str [],.float .f64 0]) (xs:=[(⟨0,0,IntKind.i64.wrap (0 - C),[],0⟩:S47)]) (fun w=>by kernel_rfl) rfl ⟨[.int .u64 0,.int .i64 0,.int .i64 (IntKind.i64.wrap (0 - C)),str [],.float .f64 0],_,rfl,rfl,rfl⟩ J X (fun g5 U w X J=>?_) rfl
  obtain⟨e3,G⟩:=aB G
  have hr:=X.rd 0 rfl
  refine gG 2 aB8 eT J X hr.1 hr.2.1 e3 rfl (fun e4 e5 e6 U w X J=>?_) rfl
  refine x_m J rfl fun U J=>wpList_nil (e2 _ _ ?_)
  refine e1 _ _ (aC ?_)
  refine x_m J rfl fun U J=>x_l G J rfl fun g6 _ U J G=>x_m J rfl fun U J=>wpList_nil ?_
  replace X:=X.drop 1 |>.pk 2 |>.pk 1 |>.pk 2
  cases G
  exact⟨_,d7 _ rfl,e4,e5,e6,J.sub _ rfl,X⟩
 cases G
 exact wp_exit (d4 c4 (d8 _ rfl) b3 b4 b5 U w (J.sub _ rfl) X)
end
noncomputable section
set_option linter.unusedSimpArgs false
def mO (a2:Int) (z:(List S47)):Option (Bool) :=
  (wE 4194304).bind fun H=>(ltt (IntKind.i64.wrap a2) fun I=>(ltt (I.tmod 40) fun J=>(ltt (IntKind.i64.wrap (1+J)) fun G=>((mA H.1 z 1 (⟨G,4⟩:S26)).bind fun h=>(ltt (IntKind.i64.wrap (G+1)) fun S=>((mA h.2.2.2.2 z 1 (⟨S,4⟩:S26)).bind fun C=>(if (h.2.2.2.1==0)=true then (if (C.2.2.2.1==0)=true then (if (decide (C.2.1≤h.2.1))=true then ((lO h.1 C.1).bind fun U=>(if U=true then ((zP z).bind fun X=>((lO h.1 X).bind fun Y=>(some Y))) else (some false))) else (some false)) else (some false)) else (some false))))))))
def lC (a2:Int) (h:(List S47)):Option (Bool) :=
  mO a2 h
def iI (a1:Int) (z:(List S47)) (J:Int) (h:Int):Option (((List S47)×Int)⊕(((List S47)))) :=
  ltt (IntKind.u64.wrap h) fun C=>(ltt (IntKind.i64.wrap (h.tdiv 3)) fun G=>(ltt (IntKind.i64.wrap a1) fun S=>(ltt (IntKind.i64.wrap (1+(S.tmod 9))) fun H=>(chk (H≠0) (ltt (h.tmod H) fun U=>(ltt (IntKind.u8.wrap U) fun X=>(ltt (IntKind.u8.wrap (97+X)) fun I=>(chk (z.length+[(⟨C,0,G,bts [I],0⟩:S47)].length≤140737488355328 / 48) (ltt (IntKind.i64.wrap (J+1)) fun Y=>(some (.inl (z++[(⟨C,0,G,bts [I],0⟩:S47)],Y))))))))))))
def eD (a0:Int) (a1:Int) (a3:Bool) (z:(List S47)) (h:Int):Option (((List S47)×Int)⊕(((List S47)))) :=
  ltt (IntKind.i64.wrap a0) fun C=>(if (decide (h<C))=true then (if a3=true then (ltt (IntKind.i64.wrap (C - 1)) fun G=>(ltt (IntKind.i64.wrap (G - h)) fun H=>(iI a1 z h H))) else (iI a1 z h h)) else (some (.inr (z))))
def mV (a0:Int) (a1:Int) (a2:Int) (a3:Bool):Option (Bool) :=
  (uK).bind fun h=>(if (!h)=true then (some false) else ((loop (fun s=>eD a0 a1 a3 s.1 s.2) ([],0)).bind fun t=>lC a2 t))
end
theorem aBu {r:World} {L:List HP} {w:World} {Z:Nat→Prop} {wz:World} (a0:Int) (a1:Int) (a2:Int) (a3:Bool) {y:(Bool)} (G:mV a0 a1 a2 a3=some y) (hG1:Imm Z wz (kI .u32) (some ⟨1,0,none⟩) 16 16 dA) (hG2:Gb Z wz 2 .u64 cO) (X:SH r (zone Z wz::L) w) :
  Ret Tryz.prog 7 #[.int .u8 a0,.int .u8 a1,.int .u8 a2,.bool a3] w fun v w'=>∃ (Z':Nat→Prop) (wz':World),v=.bool y∧Sub Z wz Z' wz'∧SH r (zone Z' wz'::L) w':=by
 refine enter Tryz.func7 rfl Tryz.ntmps7 [(0,_),(1,_),(2,_),(3,_)] rfl (by simp) ?_
 intro U J Qf hQ hQn
 unfold mV at G
 refine nz 1 J rfl fun U J=>wp_seq_k fun h9 d8=>ws fun i0 d9=>?_
 obtain⟨i1,e0,G⟩:=bnd G
 refine x_c en9 J rfl (aGw e0 X hG1 hG2 :) fun v U w hR J=>?_
 obtain⟨a8,a9,rfl,h,X⟩:=hR
 refine nk 1 J rfl fun U J=>d9 _ _ (bB J G rfl (fun e1 G=>?_) fun e1 G=>?_)
 ·refine nz 1 J rfl fun U J=>?_
  cases G
  refine wp_ret (hQ _ _ ?_)
  exact lv Tryz.results7 J rfl ⟨a8,a9,rfl,h,X⟩
 refine wp_skip (d8 _ _ ?_)
 refine nz 1 J rfl fun U J=>wp_seq_k fun i2 e2=>nz 1 J rfl fun U J=>aA fun d2 e3=>?_
 have hb1:∀c8,mO a2 c8=some y→∀b8 b9 c0 U w,FR 107 [] U [(2,.int .u8 a2),(9,.slice b8 b9 c0)]→SH r (own k47 47 b8 b9 c0 c8::zone a8 a9::L) w→d2 U w:=by
  intro c8 G b8 b9 c0 U w J X
  unfold mO at G
  refine e3 _ _ (e2 _ _ ?_)
  refine ws fun i3 e4=>?_
  obtain⟨i4,e5,G⟩:=bnd G
  refine x_c aXu J rfl (aD1 e5 X :) fun v U w hR J=>?_
  obtain⟨i5,rfl,X⟩:=hR
  refine nk 5 J rfl fun U J=>e4 _ _ (ws fun i6 e6=>?_)
  refine xk 1 J rfl fun U J=>fU G J (aS uu5 uu3 rfl (J.ev rfl)) rfl fun i7 _ U J G=>fU G J (aDz rfl (J.ev rfl) (J.ev rfl) (by decide)) rfl fun i8 _ U J G=>x_l G J rfl fun d3 _ U J G=>x_m J rfl fun U J=>wn (e6 _ _ ?_)
  refine ws fun i9 e7=>xk 3 J rfl fun U J=>x_v (v:=.agg #[.int .i64 d3,.int .i64 4]) J (nU (ps:=#[(0,.int .i64 d3),(1,.int .i64 4)]) rfl (qP J rfl) (fun w=>by kernel_rfl)) rfl fun U J=>?_
  replace X:=X.pk 2 |>.pk 2
  obtain⟨j0,j1,X,d4,C⟩:=SH.freeze (n:=b9) (c:=c0) (A:=b8) X
  replace X:=X.pk 1
  obtain⟨j2,e8,G⟩:=bnd G
  refine x_c aXi J rfl (xH e8 X d4 (Imm.sub hG1 (Sub.trans h C)) (Gb.sub hG2 (Sub.trans h C)) :) fun v U w hR J=>?_
  obtain⟨j3,j4,j5,j6,j7,rfl,H,X⟩:=hR
  have d5:=Imm.sub d4 H
  refine nk 9 J rfl fun U J=>e7 _ _ (ws fun j8 e9=>?_)
  refine xk 3 J rfl fun U J=>x_l G J rfl fun d6 _ U J G=>x_v (v:=.agg #[.int .i64 d6,.int .i64 4]) J (nU (ps:=#[(0,.int .i64 d6),(1,.int .i64 4)]) rfl (qP J rfl) (fun w=>by kernel_rfl)) rfl fun U J=>?_
  replace X:=X.pk 2 |>.pk 2
  obtain⟨j9,f2,G⟩:=bnd G
  refine x_c aXi J rfl (xH f2 X d5 (Imm.sub hG1 (Sub.trans (Sub.trans h C) H)) (Gb.sub hG2 (Sub.trans (Sub.trans h C) H)) :) fun v U w hR J=>?_
  obtain⟨b3,b4,k0,k1,k2,rfl,I,X⟩:=hR
  have f3:=Imm.sub d5 I
  refine nk 9 J rfl fun U J=>e9 _ _ (ws fun k3 b5=>?_)
  refine xk 3 J rfl fun U J=>bcG G (fun c9 G=>?_) fun c9 G=>?_
  ·refine xg 4 c9 J rfl rfl fun U J=>bcG G (fun d0 G=>?_) fun d0 G=>?_
   ·refine xg 5 d0 J rfl rfl fun U J=>bcG G (fun b6 G=>?_) fun b6 G=>?_
    ·refine xg 2 b6 J rfl rfl fun U J=>aO b6 J ?_ rfl
     obtain⟨k4,f4,G⟩:=bnd G
     refine x_c bAs J rfl (aBa f4 X (RdL.own 3 rfl (X.dropN 0)) (RdL.own 0 rfl (X.dropN 0)) :) fun v U w hR J=>?_
     obtain⟨rfl,X⟩:=hR
     refine xg 2 b6 J rfl rfl fun U J=>bcG G (fun S G=>?_) fun S G=>?_
     ·refine xg 2 S J rfl rfl fun U J=>aO S J ?_ rfl
      obtain⟨k5,f5,G⟩:=bnd G
      refine x_c bBs J rfl (aMk f5 X (f3.rdl 2 rfl) :) fun v U w hR J=>?_
      obtain⟨k6,k7,k8,rfl,X⟩:=hR
      refine aO S J ?_ rfl
      obtain⟨k9,f6,G⟩:=bnd G
      refine x_c bAs J rfl (aBa f6 X (RdL.own 4 rfl (X.dropN 0)) (RdL.own 0 rfl (X.dropN 0)) :) fun v U w hR J=>?_
      obtain⟨rfl,X⟩:=hR
      refine ng 2 S J rfl rfl fun U J=>?_
      replace X:=X.drop 0 |>.drop 0 |>.drop 0 |>.drop 1
      cases G
      refine b5 _ _ (wp_ret ?_)
      refine hQ _ _ (lv Tryz.results7 J rfl ?_)
      exact⟨b3,b4,rfl,(Sub.trans (Sub.trans (Sub.trans h C) H) I),X⟩
     refine ng 6 S J rfl rfl fun U J=>?_
     replace X:=X.drop 0 |>.drop 0 |>.drop 1
     cases G
     refine b5 _ _ (wp_ret ?_)
     refine hQ _ _ (lv Tryz.results7 J rfl ?_)
     exact⟨b3,b4,rfl,(Sub.trans (Sub.trans (Sub.trans h C) H) I),X⟩
    refine xg 5 b6 J rfl rfl fun U J=>xO 4 rfl J rfl fun U J=>cG rfl J (fun U J=>?_) rfl
    refine x_m J rfl fun U J=>wn (b5 _ _ ?_)
    replace X:=X.drop 0 |>.drop 0 |>.drop 1
    cases G
    refine wp_ret (hQ _ _ ?_)
    exact lv Tryz.results7 J rfl ⟨b3,b4,rfl,(Sub.trans (Sub.trans (Sub.trans h C) H) I),X⟩
   refine xg 5 d0 J rfl rfl fun U J=>xO 3 rfl J rfl fun U J=>cG rfl J (fun U J=>?_) rfl
   refine x_m J rfl fun U J=>xO 4 rfl J rfl fun U J=>cG rfl J (fun U J=>?_) rfl
   refine x_m J rfl fun U J=>wn (b5 _ _ ?_)
   replace X:=X.drop 0 |>.drop 0 |>.drop 1
   cases G
   refine wp_ret (hQ _ _ ?_)
   exact lv Tryz.results7 J rfl ⟨b3,b4,rfl,(Sub.trans (Sub.trans (Sub.trans h C) H) I),X⟩
  refine xg 4 c9 J rfl rfl fun U J=>xO 3 rfl J rfl fun U J=>cG rfl J (fun U J=>?_) rfl
  refine x_m J rfl fun U J=>xO 3 rfl J rfl fun U J=>cG rfl J (fun U J=>?_) rfl
  refine x_m J rfl fun U J=>xO 4 rfl J rfl fun U J=>cG rfl J (fun U J=>?_) rfl
  refine x_m J rfl fun U J=>wn (b5 _ _ ?_)
  replace X:=X.drop 0 |>.drop 0 |>.drop 1
  cases G
  refine wp_ret (hQ _ _ ?_)
  exact lv Tryz.results7 J rfl ⟨b3,b4,rfl,(Sub.trans (Sub.trans (Sub.trans h C) H) I),X⟩
 obtain⟨f7,f8,G⟩:=bnd G
 have f9:∀b7,(b7)=f7→∀c3 c4 c5 U w,FR 107 [] U [(2,.int .u8 a2),(9,.slice c3 c4 c5)]→SH r (own k47 47 c3 c4 c5 b7::zone a8 a9::L) w→d2 U w:=by
  intro b7 ht c3 c4 c5 U w J X
  subst ht
  replace G:lC a2 b7=some y:=G
  unfold lC at G
  exact hb1 b7 G c3 c4 c5 U w (J.sub _ rfl) X
 replace X:=SH.nil_own (d:=k47) (e:=47) X
 refine aD f8 (fun s U w=>∃Y a4 a5,FR 107 [] U [(0,.int .u8 a0),(1,.int .u8 a1),(2,.int .u8 a2),(3,.bool a3),(9,.slice Y a4 a5),(10,.int .i64 s.2)]∧SH r (own k47 47 Y a4 a5 s.1::zone a8 a9::L) w) ⟨none,0,0,J.sub _ rfl,X⟩ ?_
 intro l0 g0 d7 G g1 g2 U w hLab
 obtain⟨c6,c7⟩:=g0
 replace G:eD a0 a1 a3 c6 c7=some d7:=G
 unfold eD at G
 try dsimp only at hLab
 obtain⟨Y,a4,a5,J,X⟩:=hLab
 refine wp_seq_k fun l1 g3=>ws fun l2 g4=>xk 2 J rfl fun U J=>fU G J (aS uu5 uu3 rfl (J.ev rfl)) rfl fun g5 g6 U J G=>nk 1 J rfl fun U J=>g4 _ _ (bB J G rfl (fun g7 G=>?_) fun g7 G=>?_)
 ·refine wp_skip (g3 _ _ ?_)
  refine wp_seq_k fun l3 g8=>aA fun l4 g9=>nz 2 J rfl fun U J=>wp_seq_k fun h0 h1=>?_
  have hj1:∀d1,iI a1 c6 c7 d1=some d7→∀U w,FR 107 [] U [(0,.int .u8 a0),(1,.int .u8 a1),(2,.int .u8 a2),(3,.bool a3),(9,.slice Y a4 a5),(10,.int .i64 c7),(11,.int .i64 d1)]→SH r (own k47 47 Y a4 a5 c6::zone a8 a9::L) w→h0 U w:=by
   intro d1 G U w J X
   unfold iI at G
   refine h1 _ _ (aC ?_)
   refine xk 2 J rfl fun U J=>fU G J (aS uu3 mD rfl (J.ev rfl)) rfl fun a6 _ U J G=>x_m J rfl fun U J=>fU G J (aDq rfl (J.ev rfl) (J.ev rfl) (by decide)) rfl fun a7 _ U J G=>xk 2 J rfl fun U J=>fU G J (aS uu5 uu3 rfl (J.ev rfl)) rfl fun l5 _ U J G=>x_v J (aDz rfl (J.ev rfl) (J.ev rfl) (by decide)) rfl fun U J=>x_l G J rfl fun l6 _ U J G=>?_
   obtain⟨h2,G⟩:=aB G
   refine fU G J (aDz rfl (J.ev rfl) (J.ev rfl) h2) rfl fun l7 _ U J G=>fU G J (aS uu3 uu5 rfl (J.ev rfl)) rfl fun l8 _ U J G=>x_l G J rfl fun z _ U J G=>gV (d:=(kI .u8)) (e:=5) (ps:=#[(0,.int .u8 z)]) (cells:=[.int .u8 z]) (xs:=[z]) (fun w=>by kernel_rfl) rfl ⟨[.int .u8 z],_,rfl,rfl,rfl⟩ J X (fun l9 U w X J=>?_) rfl
   refine aLn fC uu5 uu9 (X.rd 0 rfl) J (fun U J=>?_) rfl
   refine x_v (v:=.agg #[.int .u64 a6,.int .i64 0,.int .i64 a7,str (bts [z]),.float .f64 0]) J (nU (ps:=#[(0,.int .u64 a6),(2,.int .i64 a7),(3,str (bts [z]))]) rfl (qP J rfl) (fun w=>by kernel_rfl)) rfl fun U J=>gV (d:=k47) (e:=47) (ps:=#[(0,.agg #[.int .u64 a6,.int .i64 0,.int .i64 a7,str (bts [z]),.float .f64 0])]) (cells:=[.int .u64 a6,.int .i64 0,.int .i64 a7,str (bts [z]),.float .f64 0]) (xs:=[(⟨a6,0,a7,bts [z],0⟩:S47)]) (fun w=>by kernel_rfl) rfl ⟨[.int .u64 a6,.int .i64 0,.int .i64 a7,str (bts [z]),.float .f64 0],_,rfl,rfl,rfl⟩ J X (fun m0 U w X J=>?_) rfl
   obtain⟨h3,G⟩:=aB G
   have hr:=X.rd 0 rfl
   refine gG 2 aB8 eT J X hr.1 hr.2.1 h3 rfl (fun h4 h5 h6 U w X J=>?_) rfl
   refine x_m J rfl fun U J=>wpList_nil (g9 _ _ ?_)
   refine g8 _ _ (aC ?_)
   refine x_m J rfl fun U J=>x_l G J rfl fun m1 _ U J G=>x_m J rfl fun U J=>wpList_nil ?_
   replace X:=X.drop 1 |>.drop 1
   cases G
   exact⟨_,g1 _ rfl,h4,h5,h6,J.sub _ rfl,X⟩
  refine nz 1 J rfl fun U J=>bB J G rfl (fun h7 G=>?_) fun h7 G=>?_
  ·refine aC (x_m J rfl fun U J=>?_)
   exact x_v (v:=.int .i64 g5) J (jY g6 (aS uu5 uu3 rfl (J.ev rfl))) rfl fun U J=>x_l G J rfl fun m2 _ U J G=>x_m J rfl fun U J=>x_l G J rfl fun h8 _ U J G=>x_m J rfl fun U J=>wpList_nil (hj1 h8 G U w (J.sub _ rfl) X)
  exact wp_skip (hj1 c7 G U w (J.sub _ rfl) X)
 cases G
 exact wp_exit (f9 c6 (g2 _ rfl) Y a4 a5 U w (J.sub _ rfl) X)
end Go.Proofs.YtnefioccdkmegaaGreatDoor.M
namespace Go.Proofs.YtnefioccdkmegaaGreatDoor.sorterRuns
open Go Go.RowKit Go.ChangeShapes Go.WideShapes Go.ChangeAt Go.Proofs.YtnefioccdkmegaaGreatDoor.E Go.Proofs.YtnefioccdkmegaaGreatDoor.M
set_option linter.unusedVariables false
theorem own:ownKnob Tryz.prog.godebug=none:=by kernel_rfl
theorem aEo:laidOutB Tryz.prog=true:=by kernel_rfl
theorem gN1 : Tryz.prog.globalNamed "headrace/page.table" = some 1 := by kernel_rfl
theorem gT1:(Tryz.prog.globals[1]?).map (·.type)=some 174:=by kernel_rfl
theorem gN2 : Tryz.prog.globalNamed "internal/strconv.uint64pow10" = some 2 := by kernel_rfl
theorem gT2:(Tryz.prog.globals[2]?).map (·.type)=some 182:=by kernel_rfl
theorem aQi (os:Os) (args:Array Value):laidMetH Tryz.prog Rows.sorterRunsRow.laid ((World.doorLaid Tryz.prog 400 os).forCall (fun _ _=>0) ⟨#[],args,[]⟩).memory :=
  laidMetH_of_parts3 (fuel:=8) (laidMet_of_run' 8 (by kernel_rfl) (by kernel_rfl)) (by kernel_rfl) (by kernel_rfl)
theorem aPz {W:World} (h:laidMetH Tryz.prog Rows.sorterRunsRow.laid W):Imm (aF4 W) W (kI .u32) (some ⟨1,0,none⟩) 16 16 M.dA:=by
  rw [MakeChecks.laidMetH_plain _ _ _ (by kernel_rfl)] at h
  replace h := h.filter (fun x => x.1 == "headrace/page.table")
  exact aSc gN1 gT1 Tryz.underlying174 Tryz.underlying146 aZj rfl (by decide) h
theorem aP6 {W:World} (h:laidMetH Tryz.prog Rows.sorterRunsRow.laid W):Gb (aF4 W) W 2 .u64 M.cO:=by
  rw [MakeChecks.laidMetH_plain _ _ _ (by kernel_rfl)] at h
  replace h := h.filter (fun x => x.1 == "internal/strconv.uint64pow10")
  exact aWx gN2 gT2 Tryz.underlying182 Tryz.underlying44 bA8 (by kernel_rfl) h
def aWu:Prop:=∀ (a0:Int) (a1:Int) (a2:Int) (a3:Bool),(gI .u8) a0→(gI .u8) a1→(gI .u8) a2→gB a3→M.mV a0 a1 a2 a3=some true
set_option maxRecDepth 100000 in
theorem aWv (hP:aWu) (os:Os) (started:os.Started) (H:Type) (enc:TypeId×Value→H) :
    ReturnsInHanded {} Tryz.checked os 7 .any (fun w args=>(Rows.sorterRunsSpec.pre enc Tryz.prog Tryz.f7 [] false w args∧laidMetH Tryz.prog Rows.sorterRunsRow.laid w)∧sizedMet enc Tryz.prog Tryz.f7 (OpenSpec.ofChange Rows.sorterRunsSpec) false w args)
      (Rows.sorterRunsSpec.post enc Tryz.prog Tryz.f7 false true false false):=by
  refine returnsInHanded_of_change_and (C:=Tryz.checked) (X:=fun w _=>laidMetH Tryz.prog Rows.sorterRunsRow.laid w) (fun _ _ _ hh h=>h.of_heap hh) own started (by kernel_rfl) Tryz.func7
    (ChangeSpec.witness_shaped (enc:=enc) (C:=Tryz.checked) (os:=os) (X:=fun w _=>laidMetH Tryz.prog Rows.sorterRunsRow.laid w) false (World.doorLaid Tryz.prog 400 os) #[.int .u8 0,.int .u8 0,.int .u8 0,.bool false] 8 rfl (World.shaped_of_RefB (by kernel_rfl) (by kernel_rfl)) (by kernel_rfl) (by kernel_rfl) (by kernel_rfl) (aQi os _)) ?_
  intro W base args ds gs before hval0 hW hcnd hsz0 hL _
  have hsz:(DataW.weightsEach Tryz.prog (Tryz.f7.params.toList++Rows.sorterRunsSpec.plain.varTypes Tryz.prog) (ds++gs)).all (· ≤ reachBytes)=true:=hsz0
  have hval:∀ (j:Nat) t v,Tryz.f7.params[j]?=some t→args[j]?=some v→Value.okWide Tryz.prog W .any base t v:=hval0
  have hW':=hW
  obtain⟨p,q,hA0,hV,rfl,hfz,hnd⟩:=hW
  have hA:DataW.TrodAll enc Tryz.prog W 0 (fun _=>true) true Tryz.f7.params.toList args.toList ds p:=hA0
  rw [Tryz.params7] at hA hval hsz
  obtain⟨v0,vs0,d0,ds0,p0,q0,hargs,rfl,rfl,h0,r0⟩:=trodAll_cons hA
  obtain⟨v1,vs1,d1,ds1,p1,q1,rfl,rfl,rfl,h1,r1⟩:=trodAll_cons r0
  obtain⟨v2,vs2,d2,ds2,p2,q2,rfl,rfl,rfl,h2,r2⟩:=trodAll_cons r1
  obtain⟨v3,vs3,d3,ds3,p3,q3,rfl,rfl,rfl,h3,r3⟩:=trodAll_cons r2
  obtain⟨rfl,rfl,rfl⟩:=trodAll_nil r3
  obtain rfl:args=#[v0,v1,v2,v3]:=by cases args; simp_all
  obtain⟨rfl,rfl⟩:=trodVars_none hV
  have k0:=h0
  have lt0:∀ x∈p0,x.block<W.heap.size:=by obtain⟨m,hm⟩:=k0; exact DataW.trod_lt m _ _ _ hm
  obtain⟨x0,hx0,g0⟩:=Opens.arg (opI Tryz.underlying5) h0 (Wt.of hsz (j:=0) rfl rfl)
  obtain⟨u0,rfl⟩:=okWide_int Tryz.underlying5 (hval 0 5 v0 rfl rfl)
  cases (show [Value.int .u8 u0]=[Value.int .u8 x0] from hx0)
  have k1:=h1
  have lt1:∀ x∈p1,x.block<W.heap.size:=by obtain⟨m,hm⟩:=k1; exact DataW.trod_lt m _ _ _ hm
  obtain⟨x1,hx1,g1⟩:=Opens.arg (opI Tryz.underlying5) h1 (Wt.of hsz (j:=1) rfl rfl)
  obtain⟨u1,rfl⟩:=okWide_int Tryz.underlying5 (hval 1 5 v1 rfl rfl)
  cases (show [Value.int .u8 u1]=[Value.int .u8 x1] from hx1)
  have k2:=h2
  have lt2:∀ x∈p2,x.block<W.heap.size:=by obtain⟨m,hm⟩:=k2; exact DataW.trod_lt m _ _ _ hm
  obtain⟨x2,hx2,g2⟩:=Opens.arg (opI Tryz.underlying5) h2 (Wt.of hsz (j:=2) rfl rfl)
  obtain⟨u2,rfl⟩:=okWide_int Tryz.underlying5 (hval 2 5 v2 rfl rfl)
  cases (show [Value.int .u8 u2]=[Value.int .u8 x2] from hx2)
  have k3:=h3
  have lt3:∀ x∈p3,x.block<W.heap.size:=by obtain⟨m,hm⟩:=k3; exact DataW.trod_lt m _ _ _ hm
  obtain⟨x3,hx3,g3⟩:=Opens.arg (opB Tryz.underlying4) h3 (Wt.of hsz (j:=3) rfl rfl)
  obtain⟨u3,rfl⟩:=okWide_bool Tryz.underlying4 (hval 3 4 v3 rfl rfl)
  cases (show [Value.bool u3]=[Value.bool x3] from hx3)
  clear hA0 hval0 hsz0 hsz
  refine Calls.mono (M.aBu (Z:=aF4 W) (wz:=W) x0 x1 x2 x3 (hP x0 x1 x2 x3 g0 g1 g2 g3) (aPz hL) (aP6 hL) (L:=[]) (SH.start W)) ?_
  rintro e W' ⟨v,rfl,Z',wz',rfl,hs,hS⟩
  have bel:=SH.below hS hs
  exact⟨_,rfl,_,_,_,[],_,[],hW',trodAll_mk1 (shut_bool Tryz.underlying4 _),(trodAll_cons_mk (Below.trod aEo (by kernel_rfl) (of_decide_eq_true (by kernel_rfl)) k0 bel lt0) (trodAll_cons_mk (Below.trod aEo (by kernel_rfl) (of_decide_eq_true (by kernel_rfl)) k1 bel lt1) (trodAll_cons_mk (Below.trod aEo (by kernel_rfl) (of_decide_eq_true (by kernel_rfl)) k2 bel lt2) (trodAll_cons_mk (Below.trod aEo (by kernel_rfl) (of_decide_eq_true (by kernel_rfl)) k3 bel lt3) trodAll_mk0)))),rfl,bel.frame _,fun h=>by cases h⟩
theorem bB8 (hP:aWu):Rows.sorterRunsRow.holds Tryz.pinned (OpenSpec.ofChange Rows.sorterRunsSpec) :=
  OpenClaim.holds_of_wide 7 Tryz.f7 rfl rfl rfl rfl rfl rfl rfl ⟨rfl,rfl,rfl,rfl,rfl⟩ rfl rfl rfl rfl rfl (by kernel_rfl) Tryz.func7 (by kernel_rfl)
    (of_decide_eq_true (by kernel_rfl)) (by unfold Func.isWrapper; first | (rw [if_pos (by decide +kernel)]; kernel_rfl) | (rw [if_neg (by decide +kernel)]; exact⟨rfl,rfl⟩))
    (fun os started H enc _=>aWv hP os started H enc)
def hrn:Bool×String:=Rows.sorterRunsCard.stood.harness
theorem card (hP:aWu):Rows.SorterRunsCardSaid :=
  Claim7.holds_tied_plain_at .later [] [.data,.data,.data,.data] true hrn true
    (bB8 hP) (fun _ h=>by cases h) (by kernel_rfl) (fun _ h=>by cases h) sorterRuns_row_tie rfl ⟨rfl,rfl⟩ (by kernel_rfl) rfl
    (fun f fn hf hfn=>by
      obtain rfl : f = 7 := Option.some.inj ((show Tryz.prog.funcNamed "headrace/headracelaw10.SorterRuns" = some 7 by kernel_rfl).symm.trans hf) |>.symm
      obtain rfl:fn=Tryz.f7:=(Option.some.inj (Tryz.func7.symm.trans hfn)).symm
      exact⟨by kernel_rfl,fun j t ht=>by
        rw [Tryz.params7] at ht
        have hm:t∈[5,5,5,4]:=by simpa using Array.mem_of_getElem? ht
        have hall:([5,5,5,4].all fun u => !Tryz.prog.wantsStandIn u)=true:=by kernel_rfl
        exact (show Tryz.prog.wantsStandIn t=false by simpa using List.all_eq_true.1 hall t hm)⟩)
    (by kernel_rfl)
end Go.Proofs.YtnefioccdkmegaaGreatDoor.sorterRuns
namespace Go.Proofs.YtnefioccdkmegaaGreatDoor.P
open Go Go.RowKit Go.Proofs.YtnefioccdkmegaaGreatDoor.E Go.Proofs.YtnefioccdkmegaaGreatDoor.M
set_option linter.unusedVariables false
set_option linter.unusedSectionVars false
theorem aMb {α:Type} (xs:List α) (n:Nat):at_ xs (n:Int)=xs[n]?:=by simp [at_]
theorem aH {α:Type} {xs:List α} {i:Int} {n:Nat} {x:α} (hi:i=n) (h:xs[n]?=some x):at_ xs i=some x:=by subst hi; rw [aMb,h]
theorem uF {α:Type} {xs:List α} {l u:Nat} (h:l≤u) (hu:u≤xs.length):oO xs (l:Int) (u:Int)=some ((xs.take u).drop l):=by
 unfold oO; rw [if_pos (by omega)]; simp
theorem aW {α:Type} {p:Prop} [Decidable p] {x:Option α} (h:p):chk p x=x:=if_pos h
theorem w64 {n:Int} (h : -9223372036854775808≤n) (h':n≤9223372036854775807):IntKind.i64.wrap n=n:=IntWalk.i64_in n ⟨h,h'⟩
theorem aA2 {n:Int} (h:0≤n) (h':n<18446744073709551616):IntKind.u64.wrap n=n:=IntWalk.u64_in n ⟨h,by omega⟩
theorem u8w {n:Int} (h:0≤n) (h':n<256):IntKind.u8.wrap n=n:=IntWalk.u8_in n ⟨h,by omega⟩
theorem lt_ {α β:Type} (e:α) (f:α→Option β):ltt e f=f e:=rfl
theorem aIq {σ τ:Type} {b:σ→Option (σ⊕τ)} (f:Nat→σ) {t:τ}:∀ (n:Nat) (i:Nat),(∀ k,i≤k→k<i+n→b (f k)=some (.inl (f (k+1))))→b (f (i+n))=some (.inr t)→loop b (f i)=some t
 | 0,i,_,he=>bJ he
 | n+1,i,hs,he=>(dD (hs i (Nat.le_refl _) (by omega))).trans (aIq f n (i+1) (fun k h1 h2=>hs k (by omega) (by omega)) (by rw [show i+1+n=i+(n+1) by omega]; exact he))
theorem iO {σ τ:Type} {b:σ→Option (σ⊕τ)} (f:Nat→σ) {t:τ} (n:Nat) (hs:∀ k,k<n→b (f k)=some (.inl (f (k+1)))) (he:b (f n)=some (.inr t)):loop b (f 0)=some t :=
 aIq f n 0 (fun k _ h=>hs k (by omega)) (by simpa using he)
theorem fP (n a:Nat):BitVec.ofInt n (a:Int)=BitVec.ofNat n a:=BitVec.ofInt_natCast n a
theorem aCe (a:Nat):IntKind.u64.wrap (a:Int)=((a % 18446744073709551616:Nat):Int):=by
 rw [IntKind.wrap_u64]; omega
theorem aAa (a:Nat):IntKind.u8.wrap (a:Int)=((a % 256:Nat):Int):=by rw [IntKind.wrap_u8]; omega
theorem aFe {a b:Nat} (ha:a<18446744073709551616) (hb:b<18446744073709551616):yQ .u64 (a:Int) (b:Int)=((a &&& b:Nat):Int):=by
 unfold yQ
 rw [fP,fP,aCe]
 have h:a &&& b<18446744073709551616:=Nat.lt_of_le_of_lt Nat.and_le_left ha
 simp only [BitVec.toNat_and,BitVec.toNat_ofNat,show IntKind.u64.bits=64 from rfl]
 rw [Nat.mod_eq_of_lt (show a<2 ^ 64 by omega),Nat.mod_eq_of_lt (show b<2 ^ 64 by omega),Nat.mod_eq_of_lt h]
theorem aTs {a b:Nat} (ha:a<256) (hb:b<256):yQ .u8 (a:Int) (b:Int)=((a &&& b:Nat):Int):=by
 unfold yQ
 rw [fP,fP,aAa]
 have h:a &&& b<256:=Nat.lt_of_le_of_lt Nat.and_le_left ha
 simp only [BitVec.toNat_and,BitVec.toNat_ofNat,show IntKind.u8.bits=8 from rfl]
 rw [Nat.mod_eq_of_lt (show a<2 ^ 8 by omega),Nat.mod_eq_of_lt (show b<2 ^ 8 by omega),Nat.mod_eq_of_lt h]
theorem aT9 {a b:Nat} (ha:a<18446744073709551616) (hb:b<18446744073709551616):ior .u64 (a:Int) (b:Int)=((a ||| b:Nat):Int):=by
 unfold ior
 rw [fP,fP,aCe]
 have h:a ||| b<2 ^ 64:=Nat.or_lt_two_pow (show a<2 ^ 64 by omega) (show b<2 ^ 64 by omega)
 simp only [BitVec.toNat_or,BitVec.toNat_ofNat,show IntKind.u64.bits=64 from rfl]
 rw [Nat.mod_eq_of_lt (show a<2 ^ 64 by omega),Nat.mod_eq_of_lt (show b<2 ^ 64 by omega),Nat.mod_eq_of_lt (show a ||| b<18446744073709551616 from h)]
theorem aQ3 {a b:Nat} (ha:a<256) (hb:b<256):ior .u8 (a:Int) (b:Int)=((a ||| b:Nat):Int):=by
 unfold ior
 rw [fP,fP,aAa]
 have h:a ||| b<2 ^ 8:=Nat.or_lt_two_pow (show a<2 ^ 8 by omega) (show b<2 ^ 8 by omega)
 simp only [BitVec.toNat_or,BitVec.toNat_ofNat,show IntKind.u8.bits=8 from rfl]
 rw [Nat.mod_eq_of_lt (show a<2 ^ 8 by omega),Nat.mod_eq_of_lt (show b<2 ^ 8 by omega),Nat.mod_eq_of_lt (show a ||| b<256 from h)]
theorem aPx {a b:Nat} (ha:a<18446744073709551616) (hb:b<18446744073709551616):xT .u64 (a:Int) (b:Int)=((a ^^^ b:Nat):Int):=by
 unfold xT
 rw [fP,fP,aCe]
 have h:a ^^^ b<2 ^ 64:=Nat.xor_lt_two_pow (show a<2 ^ 64 by omega) (show b<2 ^ 64 by omega)
 simp only [BitVec.toNat_xor,BitVec.toNat_ofNat,show IntKind.u64.bits=64 from rfl]
 rw [Nat.mod_eq_of_lt (show a<2 ^ 64 by omega),Nat.mod_eq_of_lt (show b<2 ^ 64 by omega),Nat.mod_eq_of_lt (show a ^^^ b<18446744073709551616 from h)]
theorem aEf (n:Nat):(2:Int) ^ n=((2 ^ n:Nat):Int):=(Int.natCast_pow 2 n).symm
theorem nA {k:IntKind} (a n:Nat) (h:n≤k.bits):bS k (a:Int) (n:Int)=((a / 2 ^ n:Nat):Int):=by
 unfold bS
 rw [Int.toNat_natCast,Nat.min_eq_left h,aEf,Int.fdiv_eq_ediv_of_nonneg _ (Int.natCast_nonneg _)]
 rfl
theorem aK3 (a n:Nat) (h:n≤64):yZ .u64 (a:Int) (n:Int)=((a * 2 ^ n % 18446744073709551616:Nat):Int):=by
 unfold yZ
 rw [Int.toNat_natCast,show min n IntKind.u64.bits=n from Nat.min_eq_left h,aEf, ← Int.natCast_mul,aCe]
theorem aT0 (a n:Nat) (h:n≤8):yZ .u8 (a:Int) (n:Int)=((a * 2 ^ n % 256:Nat):Int):=by
 unfold yZ
 rw [Int.toNat_natCast,show min n IntKind.u8.bits=n from Nat.min_eq_left h,aEf, ← Int.natCast_mul,aAa]
theorem aC9 {a n:Nat} (h:a<2 ^ n) (b:Nat):a ||| (b * 2 ^ n)=a+b * 2 ^ n:=by
 rw [Nat.or_comm,Nat.mul_comm, ← Nat.two_pow_add_eq_or_of_lt h,Nat.add_comm]
def uv (n:Nat):List Int:=if h:n<128 then [(n:Int)] else ((n % 128+128:Nat):Int)::uv (n / 128)
termination_by n
decreasing_by omega
theorem aAc {n:Nat} (h:n<128):uv n=[(n:Int)]:=by rw [uv,dif_pos h]
theorem zT {n:Nat} (h:¬ n<128):uv n=((n % 128+128:Nat):Int)::uv (n / 128):=by rw [uv,dif_neg h]
theorem aG8:∀ (k n:Nat),n<128 ^ (k+1)→(uv n).length≤k+1
 | 0,n,h=>by rw [aAc (by simpa using h)]; simp
 | k+1,n,h=>by
  by_cases hn:n<128
  ·rw [aAc hn]; simp
  ·rw [zT hn,List.length_cons]
   have:=aG8 k (n / 128) (by rw [Nat.pow_succ] at h; exact Nat.div_lt_of_lt_mul (by rw [Nat.mul_comm]; exact h))
   omega
theorem dG {n:Nat} (h:n<18446744073709551616):(uv n).length≤10:=aG8 9 n (by omega)
set_option maxRecDepth 100000 in
theorem aXo:∀ m:Fin 256,(m.val ||| 128)=m.val % 128+128:=by decide
theorem zH (n:Nat):∀ (a0:List Int),n<18446744073709551616→a0.length+(uv n).length≤140737488355328→kD a0 (n:Int)=some (a0++uv n):=by
 induction n using Nat.strongRecOn with
 | _ n ih =>
  intro a0 h hl
  unfold kD
  by_cases hn:n<128
  ·rw [bJ (t:=(a0,(n:Int))) (by
    show kU a0 (n:Int)=_
    unfold kU
    rw [if_neg (by simp only [decide_eq_true_eq]; omega)])]
   simp only [Option.bind_some]
   unfold qG tG
   rw [aAc hn] at hl ⊢
   rw [lt_,u8w (by omega) (by omega),aW (by simpa using hl)]
  ·have hl':=hl
   rw [zT hn,List.length_cons] at hl'
   have e1:IntKind.u8.wrap (n:Int)=((n % 256:Nat):Int):=aAa n
   have e2:ior .u8 ((n % 256:Nat):Int) 128=((n % 128+128:Nat):Int):=by
    have:=aQ3 (a:=n % 256) (b:=128) (by omega) (by omega)
    rw [show ((128:Nat):Int)=128 from rfl] at this
    rw [this,aXo ⟨n % 256,by omega⟩]
    simp only
    omega
   have e3:bS .u64 (n:Int) 7=((n / 128:Nat):Int):=nA (k:=.u64) n 7 (by decide)
   rw [dD (s':=(a0++[((n % 128+128:Nat):Int)],((n / 128:Nat):Int))) (by
    show kU a0 (n:Int)=_
    unfold kU
    rw [if_pos (by simp only [decide_eq_true_eq]; omega),lt_,e1,lt_,e2,aW (by simp; omega),lt_,e3])]
   have:=ih (n / 128) (by omega) (a0++[((n % 128+128:Nat):Int)]) (by omega) (by simp; omega)
   unfold kD at this
   rw [this,zT hn]
   simp
def zz (i:Int):Nat:=if i<0 then (-(i+1)).toNat * 2+1 else i.toNat * 2
def uz (n:Nat):Int:=if n % 2=1 then -((n / 2:Nat):Int) - 1 else ((n / 2:Nat):Int)
theorem bAq (i:Int):uz (zz i)=i:=by unfold uz zz; split <;> split <;> omega
def i64 (i:Int):Prop := -9223372036854775808≤i∧i≤9223372036854775807
theorem aA6 {i:Int} (h:i64 i):zz i<18446744073709551616:=by
 unfold i64 at h
 unfold zz; split <;> omega
theorem zN (x:Int):i64 (IntKind.i64.wrap x):=by
 rw [IntWalk.i64_left]; unfold wrap64 i64; omega
theorem aRt {a:Nat} (h:a<18446744073709551616):xT .u64 (a:Int) 18446744073709551615=((18446744073709551615 - a:Nat):Int):=by
 show IntKind.u64.wrap (((BitVec.ofInt 64 (a:Int) ^^^ BitVec.allOnes 64).toNat:Nat):Int)=_
 rw [fP,BitVec.xor_allOnes,aCe,BitVec.toNat_not,BitVec.toNat_ofNat,Nat.mod_eq_of_lt (show a<2 ^ 64 by omega)]
 omega
theorem aYw {i:Int} (h:i64 i):xT .u64 (IntKind.u64.wrap (yZ .i64 i 1)) (IntKind.u64.wrap (bS .i64 i 63))=(zz i:Int):=by
 unfold i64 at h
 have e1:yZ .i64 i 1=IntKind.i64.wrap (i * 2):=rfl
 have e2:bS .i64 i 63=if i<0 then -1 else 0:=by
  unfold bS
  rw [show (63:Int).toNat=63 from rfl,show min 63 IntKind.i64.bits=63 from rfl,Int.fdiv_eq_ediv_of_nonneg _ (by decide)]
  split <;> omega
 rw [e1,e2]
 have e3:IntKind.u64.wrap (IntKind.i64.wrap (i * 2))=(i * 2) % 18446744073709551616:=by
  rw [IntKind.wrap_u64,IntWalk.i64_left]; unfold wrap64; omega
 rw [e3]
 unfold zz
 by_cases hi:i<0
 ·rw [if_pos hi,if_pos hi,show IntKind.u64.wrap (-1)=18446744073709551615 from rfl]
  obtain⟨m,hm⟩:∃ m:Nat,(i * 2) % 18446744073709551616=(m:Int):=⟨((i * 2) % 18446744073709551616).toNat,by omega⟩
  rw [hm,aRt (by omega)]
  omega
 ·rw [if_neg hi,if_neg hi,show IntKind.u64.wrap 0=((0:Nat):Int) from rfl]
  obtain⟨m,hm⟩:∃ m:Nat,(i * 2) % 18446744073709551616=(m:Int):=⟨((i * 2) % 18446744073709551616).toNat,by omega⟩
  rw [hm,aPx (by omega) (by omega),Nat.xor_zero]
  omega
theorem aEe {i:Int} (h:i64 i) (a0:List Int) (hl:a0.length+10≤140737488355328):pJ a0 i=some (a0++uv (zz i)):=by
 unfold pJ
 have:=dG (aA6 h)
 simp only [lt_,aYw h,zH _ a0 (aA6 h) (by omega),Option.bind_some]
theorem aJ8 (s:List UInt8) (a0:List Int) (hs:s.length≤9223372036854775807) (hl:a0.length+s.length+10≤140737488355328):pA a0 s=some (a0++uv s.length++stb s):=by
 unfold pA
 have:=dG (n:=s.length) (by omega)
 rw [lt_,aA2 (by omega) (by omega),zH _ a0 (by omega) (by omega)]
 simp only [Option.bind_some]
 rw [aW (by simp; omega)]
def Bs (xs:List Int):Prop:=∀ b∈xs,0≤b∧b<256
theorem Bs.nil:Bs []:=fun _ h=>by cases h
theorem Bs.cons {b:Int} {xs:List Int} (h:Bs (b::xs)):(0≤b∧b<256)∧Bs xs:=⟨h b List.mem_cons_self,fun c hc=>h c (List.mem_cons_of_mem _ hc)⟩
theorem Bs.mk {b:Int} {xs:List Int} (hb:0≤b∧b<256) (h:Bs xs):Bs (b::xs):=fun c hc=>by
 rcases List.mem_cons.1 hc with rfl | hc
 ·exact hb
 ·exact h c hc
theorem Bs.app {xs ys:List Int} (h:Bs xs) (h':Bs ys):Bs (xs++ys):=fun c hc=>(List.mem_append.1 hc).elim (h c) (h' c)
theorem Bs.l {xs ys:List Int} (h:Bs (xs++ys)):Bs xs:=fun c hc=>h c (List.mem_append.2 (.inl hc))
theorem Bs.r {xs ys:List Int} (h:Bs (xs++ys)):Bs ys:=fun c hc=>h c (List.mem_append.2 (.inr hc))
theorem Bs.drop {xs:List Int} (h:Bs xs) (n:Nat):Bs (xs.drop n):=fun c hc=>h c (List.mem_of_mem_drop hc)
theorem Bs.take {xs:List Int} (h:Bs xs) (n:Nat):Bs (xs.take n):=fun c hc=>h c (List.mem_of_mem_take hc)
theorem Bs.uv (n:Nat):Bs (uv n):=by
 induction n using Nat.strongRecOn with
 | _ n ih =>
  by_cases hn:n<128
  ·rw [aAc hn]; exact Bs.mk (by omega) Bs.nil
  ·rw [zT hn]; exact Bs.mk (by omega) (ih _ (by omega))
theorem Bs.stb (s:List UInt8):Bs (stb s):=by
 intro c hc
 unfold E.stb at hc
 obtain⟨b,_,rfl⟩:=List.mem_map.1 hc
 have:=b.toNat_lt
 omega
end Go.Proofs.YtnefioccdkmegaaGreatDoor.P
