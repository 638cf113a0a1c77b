/- Texts of the claim, joined: what it uses of Mfb, Dfd, Mfd, Dfe, Mfe, Dso. -/
import Derived.Test.YtnefioccdkmegaaGreatDoorZh
namespace Go.Proofs.YtnefioccdkmegaaGreatDoor.M
open Go Go.RowKit Go.Proofs.YtnefioccdkmegaaGreatDoor.E
set_option linter.unusedVariables false
set_option maxRecDepth 100000
set_option maxHeartbeats 4000000
set_option linter.unusedSimpArgs false
section
variable {r:World} {L:List HP} {w:World} {Z:Nat→Prop} {wz:World}
theorem aJo {a0 y} (G:tU a0=some y) (X:SH r (L) w) :
  Ret Tryz.prog 35 #[str a0] w fun v w'=>v=.bool y∧SH r (L) w':=by
 refine enter Tryz.func35 rfl Tryz.ntmps35 [(0,_)] rfl (by simp) ?_
 intro U J Qf hQ hQn
 unfold tU at G
 refine nz 1 J rfl fun U J=>wp_seq_k fun O o=>ws fun P p=>xk 1 J rfl fun U J=>x_v J (aAb uu9 rfl (J.ev rfl)) rfl fun U J=>x_m J rfl fun U J=>wn (p _ _ ?_)
 refine aA fun i t=>?_
 have hb1:rC a0=some y→∀U w,FR 39 [] U [(0,str a0)]→SH r (L) w→i U w:=by
  intro G U w J X
  unfold rC at G
  refine t _ _ (o _ _ ?_)
  refine ws fun Q j=>xk 1 J rfl fun U J=>x_v J (aLe rfl (J.ev rfl) (J.ev rfl)) rfl fun U J=>x_m J rfl fun U J=>bcG G (fun c G=>?_) fun c G=>?_
  ·refine xg 1 c J rfl rfl fun U J=>aJ c J ?_ rfl
   refine x_v J (aAb uu9 rfl (J.ev rfl)) rfl fun U J=>ng 3 c J rfl rfl fun U J=>?_
   cases G
   refine j _ _ (wp_ret ?_)
   refine hQ _ _ (lv Tryz.results35 J rfl ?_)
   exact⟨rfl,X⟩
  refine ng 5 c J rfl rfl fun U J=>?_
  cases G
  refine j _ _ (wp_ret ?_)
  refine hQ _ _ (lv Tryz.results35 J rfl ?_)
  exact⟨rfl,X⟩
 obtain⟨u,x,G⟩:=bnd G
 have z:=G
 have A:(.inl ())=u→∀U w,FR 39 [] U [(0,str a0)]→SH r (L) w→i U w:=by
  intro ht U w J X
  subst ht
  replace G:uW a0=some y:=G
  unfold uW at G
  exact hb1 G U w (J.sub _ rfl) X
 refine aD x (fun s U w=>FR 39 [] U [(0,str a0),(6,.int .i64 (a0.length:Int)),(7,.int .i64 s)]∧SH r (L) w) ⟨J.sub _ rfl,X⟩ ?_
 intro R B k G C l U w hLab
 obtain⟨g,rfl⟩:∃ q,q=B:=⟨_,rfl⟩
 replace G:fM a0 g=some k:=G
 unfold fM at G
 try dsimp only at hLab
 obtain⟨J,X⟩:=hLab
 refine nz 1 J rfl fun U J=>wp_seq_k fun S D=>bA J G rfl (fun E G=>?_) fun E G=>?_
 ·refine wp_skip (D _ _ ?_)
  refine wp_seq_k fun T F=>aA fun W H=>nz 2 J rfl fun U J=>ws fun Y I=>xk 2 J rfl fun U J=>?_
  obtain⟨m,n,G⟩:=bnd G
  refine x_v J (aK8 uu9 rfl (J.ev rfl) (J.ev rfl) (dQ n).1 (dQ n).2.2) rfl fun U J=>x_m J rfl fun U J=>wn (I _ _ ?_)
  refine wp_seq_k fun K M=>?_
  have hj1:∀h,gU g h=some k→∀U w,FR 39 [] U [(0,str a0),(6,.int .i64 (a0.length:Int)),(7,.int .i64 g),(30,.bool h)]→SH r (L) w→K U w:=by
   intro h G U w J X
   unfold gU at G
   refine M _ _ (bA J G rfl (fun N G=>?_) fun N G=>?_)
   ·refine nz 1 J rfl fun U J=>?_
    cases G
    refine wp_ret ?_
    have ht:=l _ rfl
    subst ht
    replace G:=z
    replace G:some false=some y:=G
    cases G
    refine hQ _ _ (lv Tryz.results35 J rfl ?_)
    exact⟨rfl,X⟩
   refine wp_skip (H _ _ ?_)
   refine F _ _ (aC ?_)
   refine x_l G J rfl fun Z _ U J G=>x_m J rfl fun U J=>wpList_nil ?_
   cases G
   exact⟨_,C _ rfl,J.sub _ rfl,X⟩
  refine aC (xk 3 J rfl fun U J=>?_)
  refine bcG G (fun a G=>?_) fun a G=>?_
  ·refine xg 3 a J rfl rfl fun U J=>bcG G (fun d G=>?_) fun d G=>?_
   ·refine xg 2 d J rfl rfl fun U J=>aJ a J ?_ rfl
    refine xg 1 d J rfl rfl fun U J=>xg 2 a J rfl rfl fun U J=>aJ rfl J ?_ rfl
    refine x_m J rfl fun U J=>aJ rfl J ?_ rfl
    refine xk 1 J rfl fun U J=>aJ rfl J ?_ rfl
    refine x_m J rfl fun U J=>bcG G (fun e G=>?_) fun e G=>?_
    ·refine xg 2 e J rfl rfl fun U J=>aJ rfl J ?_ rfl
     refine xg 1 e J rfl rfl fun U J=>oA rfl J (fun U J=>?_) rfl
     exact wpList_nil (hj1 true G U w (J.sub _ rfl) X)
    refine xg 2 e J rfl rfl fun U J=>aJ rfl J ?_ rfl
    refine xg 1 e J rfl rfl fun U J=>oA rfl J (fun U J=>?_) rfl
    exact wpList_nil (hj1 (decide (122<(m.toNat:Int))) G U w (J.sub _ rfl) X)
   refine xg 2 d J rfl rfl fun U J=>aJ a J ?_ rfl
   refine xg 1 d J rfl rfl fun U J=>xg 2 a J rfl rfl fun U J=>bcG G (fun b G=>?_) fun b G=>?_
   ·refine xg 3 b J rfl rfl fun U J=>bcG G (fun f G=>?_) fun f G=>?_
    ·refine xg 2 f J rfl rfl fun U J=>aJ b J ?_ rfl
     exact xg 1 f J rfl rfl fun U J=>ng 1 b J rfl rfl fun U J=>hj1 true G U w (J.sub _ rfl) X
    refine xg 2 f J rfl rfl fun U J=>aJ b J ?_ rfl
    exact xg 1 f J rfl rfl fun U J=>ng 1 b J rfl rfl fun U J=>hj1 (decide (122<(m.toNat:Int))) G U w (J.sub _ rfl) X
   exact ng 7 b J rfl rfl fun U J=>hj1 false G U w (J.sub _ rfl) X
  refine xg 8 a J rfl rfl fun U J=>xO 3 rfl J rfl fun U J=>xk 2 J rfl fun U J=>xO 1 rfl J rfl fun U J=>bT rfl J (fun U J=>?_) rfl
  exact wpList_nil (hj1 false G U w (J.sub _ rfl) X)
 cases G
 exact wp_exit (A (l _ rfl) U w (J.sub _ rfl) X)
theorem uQ {a0 a1 A0 n0 c0 y} (G:iV a0 a1=some y) (X:SH r (L) w) :
  Ret Tryz.prog 37 #[.agg #[str a0.f0,.slice A0 n0 c0,.int .i64 a0.f2],str a1] w fun v w'=>v=.int .i64 y∧SH r (L) w':=by
 refine enter Tryz.func37 rfl Tryz.ntmps37 [(0,_),(1,_)] rfl (by simp) ?_
 intro U J Qf hQ hQn
 unfold iV at G
 refine ws fun h a=>mY J X (fun i U w X J=>?_) rfl
 refine x_m J rfl fun U J=>wn (a _ _ ?_)
 refine wp_seq_k fun j b=>aA fun k c=>ws fun l d=>aL aMj J (fun U J=>?_) rfl
 refine aH uu9 (X.cell 0 rfl 0 _ rfl) J (fun U J=>?_) rfl
 refine x_m J rfl fun U J=>x_v J (aHp rfl (J.ev rfl) (J.ev rfl)) rfl fun U J=>x_m J rfl fun U J=>wn (d _ _ ?_)
 refine bA J G rfl (fun e G=>?_) fun e G=>?_
 ·refine nz 1 J rfl fun U J=>?_
  replace X:=X.drop 0
  cases G
  refine wp_ret (hQ _ _ ?_)
  exact lv Tryz.results37 J rfl ⟨rfl,X⟩
 refine ws fun m f=>aL aMj J (fun U J=>?_) rfl
 refine aH uu9 (X.cell 0 rfl 0 _ rfl) J (fun U J=>?_) rfl
 refine x_m J rfl fun U J=>x_v J (bAt rfl (J.ev rfl) (J.ev rfl)) rfl fun U J=>x_m J rfl fun U J=>wn (f _ _ ?_)
 refine bA J G rfl (fun g G=>?_) fun g G=>?_
 ·refine nz 1 J rfl fun U J=>?_
  replace X:=X.drop 0
  cases G
  refine wp_ret (hQ _ _ ?_)
  exact lv Tryz.results37 J rfl ⟨rfl,X⟩
 refine wp_skip (c _ _ ?_)
 refine b _ _ (nz 1 J rfl fun U J=>?_)
 replace X:=X.drop 0
 cases G
 refine wp_ret (hQ _ _ ?_)
 exact lv Tryz.results37 J rfl ⟨rfl,X⟩
theorem jO {a0 a1 A0 n0 c0 y} (G:bB a0 a1=some y) (X:SH r (L) w) (ha0:RdL L (kL kp64 (fun x:S64=>x.f1)) A0 n0 c0 a0) :
  Ret Tryz.prog 36 #[.slice A0 n0 c0,str a1,.func (.func 37) #[] #[]] w fun v w'=>v=.tuple #[(.int .i64 y.1),(.bool y.2)]∧SH r (L) w':=by
 refine enter Tryz.func36 rfl Tryz.ntmps36 [(0,_),(1,_),(2,_)] rfl (by simp) ?_
 intro U J Qf hQ hQn
 unfold bB at G
 refine nz 2 J rfl fun U J=>ws fun a7 q=>xk 1 J rfl fun U J=>aU jS (X.rdl 0 ha0 rfl).2.1 J (fun U J=>?_) rfl
 refine x_m J rfl fun U J=>wn (q _ _ ?_)
 refine nz 3 J rfl fun U J=>wp_seq_k fun a8 t=>aA fun g z=>?_
 have hb1:∀c,bN a0 a1 c=some y→∀U w,FR 49 [] U [(0,.slice A0 n0 c0),(1,str a1),(2,.func (.func 37) #[] #[]),(8,.int .i64 (a0.length:Int)),(9,.int .i64 c)]→SH r (L) w→g U w:=by
  intro c G U w J X
  unfold bN at G
  refine z _ _ (t _ _ ?_)
  refine ws fun a9 i=>xk 5 J rfl fun U J=>bcG G (fun a G=>?_) fun a G=>?_
  ·refine xg 3 a J rfl rfl fun U J=>aJ a J ?_ rfl
   obtain⟨k,l,G⟩:=bnd G
   refine fG jS qO (X.rdl 0 ha0 rfl) l J (fun U J=>?_) rfl
   refine aJ a J ?_ rfl
   obtain⟨cs,hV,A⟩:=el (X.rdl 0 ha0 rfl) l
   obtain⟨⟨B,C,D⟩,hV,b1⟩:=hV
   obtain rfl:=hV
   refine lH (cs:=[str k.f0,.slice B C D,.int .i64 k.f2]) aSz qO (fun j u h=>by rw [eU]; exact A _ _ h) J (fun U J=>?_) rfl
   refine xg 1 a J rfl rfl fun U J=>aJ a J ?_ rfl
   obtain⟨b2,E,G⟩:=bnd G
   refine x_c aZo J rfl (uQ E X :) fun v U w hR J=>?_
   obtain⟨rfl,X⟩:=hR
   refine ng 4 a J rfl rfl fun U J=>?_
   cases G
   refine i _ _ (wp_ret ?_)
   refine hQ _ _ (lv2 Tryz.results36 J rfl rfl ?_)
   exact⟨rfl,X⟩
  refine ng 11 a J rfl rfl fun U J=>?_
  cases G
  refine i _ _ (wp_ret ?_)
  refine hQ _ _ (lv2 Tryz.results36 J rfl rfl ?_)
  exact⟨rfl,X⟩
 obtain⟨F,H,G⟩:=bnd G
 have I:∀b,(b)=F→∀U w,FR 49 [] U [(0,.slice A0 n0 c0),(1,str a1),(2,.func (.func 37) #[] #[]),(8,.int .i64 (a0.length:Int)),(9,.int .i64 b)]→SH r (L) w→g U w:=by
  intro b ht U w J X
  subst ht
  replace G:bK a0 a1 b=some y:=G
  unfold bK at G
  exact hb1 b G U w (J.sub _ rfl) X
 refine aD H (fun s U w=>FR 49 [] U [(0,.slice A0 n0 c0),(1,str a1),(2,.func (.func 37) #[] #[]),(8,.int .i64 (a0.length:Int)),(9,.int .i64 s.1),(10,.int .i64 s.2)]∧SH r (L) w) ⟨J.sub _ rfl,X⟩ ?_
 intro b3 K m G M N U w hLab
 obtain⟨d,n⟩:=K
 replace G:aF a0 a1 d n=some m:=G
 unfold aF at G
 try dsimp only at hLab
 obtain⟨J,X⟩:=hLab
 refine wp_seq_k fun b4 O=>nz 3 J rfl fun U J=>bA J G rfl (fun P G=>?_) fun P G=>?_
 ·refine wp_skip (O _ _ ?_)
  refine aA fun Q R=>?_
  have hb2:∀e f,aV e f=some m→∀U w,FR 49 [] U [(0,.slice A0 n0 c0),(1,str a1),(2,.func (.func 37) #[] #[]),(8,.int .i64 (a0.length:Int)),(9,.int .i64 e),(10,.int .i64 f)]→SH r (L) w→Q U w:=by
   intro e f G U w J X
   unfold aV at G
   cases G
   exact R _ _ ⟨_,M _ rfl,J.sub _ rfl,X⟩
  refine ws fun b5 S=>xk 2 J rfl fun U J=>x_l G J rfl fun b6 _ U J G=>gQ G J (aY uu3 aEf rfl (J.ev rfl)) rfl fun b7 _ U J G=>gQ G J (qV rfl (J.ev rfl) (J.ev rfl) (by decide)) rfl fun b8 _ U J G=>gQ G J (aY aEf uu3 rfl (J.ev rfl)) rfl fun T _ U J G=>x_m J rfl fun U J=>wn (S _ _ ?_)
  refine ws fun b9 W=>xk 3 J rfl fun U J=>?_
  obtain⟨o,p,G⟩:=bnd G
  refine fG jS qO (X.rdl 0 ha0 rfl) p J (fun U J=>?_) rfl
  obtain⟨cs,hV,Y⟩:=el (X.rdl 0 ha0 rfl) p
  obtain⟨⟨Z,a2,a3⟩,hV,c1⟩:=hV
  obtain rfl:=hV
  refine lH (cs:=[str o.f0,.slice Z a2 a3,.int .i64 o.f2]) aSz qO (fun j u h=>by rw [eU]; exact Y _ _ h) J (fun U J=>?_) rfl
  refine x_m J rfl fun U J=>?_
  obtain⟨c2,a4,G⟩:=bnd G
  refine x_c aZo J rfl (uQ a4 X :) fun v U w hR J=>?_
  obtain⟨rfl,X⟩:=hR
  refine nk 1 J rfl fun U J=>W _ _ (bA J G rfl (fun a5 G=>?_) fun a5 G=>?_)
  ·refine aC (x_m J rfl fun U J=>?_)
   exact x_l G J rfl fun a6 _ U J G=>x_m J rfl fun U J=>wpList_nil (hb2 a6 n G U w (J.sub _ rfl) X)
  refine aC (nk 2 J rfl fun U J=>?_)
  exact hb2 d T G U w (J.sub _ rfl) X
 cases G
 exact wp_exit (I d (N _ rfl) U w (J.sub _ rfl) X)
theorem rH {a0 a1 g0 A0_0 n0_0 c0_0 y} (G:gN a0 a1=some y) (X:SH r (blk g0 58 [.slice A0_0 n0_0 c0_0,.int .i64 a0.f1,.int .i64 a0.f2,.bool a0.f3,.int .i64 a0.f4]::own2 kp64 (kI .u8) 5 (fun x:S64=>x.f1) 64 A0_0 n0_0 c0_0 a0.f0::L) w) :
  Ret Tryz.prog 25 #[.pointer (some ⟨g0,0,none⟩),str a1] w fun v w'=>v=.tuple #[(.int .i64 y.1),(.bool y.2)]∧SH r (blk g0 58 [.slice A0_0 n0_0 c0_0,.int .i64 a0.f1,.int .i64 a0.f2,.bool a0.f3,.int .i64 a0.f4]::own2 kp64 (kI .u8) 5 (fun x:S64=>x.f1) 64 A0_0 n0_0 c0_0 a0.f0::L) w':=by
 refine enter Tryz.func25 rfl Tryz.ntmps25 [(0,_),(1,_)] rfl (by simp) ?_
 intro U J Qf hQ hQn
 unfold gN at G
 refine nz 2 J rfl fun U J=>ws fun c a=>xk 2 J rfl fun U J=>aL uZ J (fun U J=>?_) rfl
 refine aH jS (X.cell 0 rfl 0 _ rfl) J (fun U J=>?_) rfl
 refine x_m J rfl fun U J=>?_
 obtain⟨d,b,G⟩:=bnd G
 refine x_c bBe J rfl (jO b X (RdL.own2 1 rfl (X.dropN 0)) :) fun v U w hR J=>?_
 obtain⟨rfl,X⟩:=hR
 refine nk 4 J rfl fun U J=>?_
 replace X:=X.pk 1 |>.pk 1
 cases G
 refine a _ _ (wp_ret ?_)
 refine hQ _ _ (lv2 Tryz.results25 J rfl rfl ?_)
 exact⟨rfl,X⟩
theorem kV {a0 a1 p0 y} (G:eZ a0 a1=some y) (X:SH r (sS (obj58) p0 a0::L) w) :
  Ret Tryz.prog 24 #[.pointer p0,str a1] w fun v w'=>v=.int .i64 y∧SH r (sS (obj58) p0 a0::L) w':=by
 refine enter Tryz.func24 rfl Tryz.ntmps24 [(0,_),(1,_)] rfl (by simp) ?_
 intro U J Qf hQ hQn
 unfold eZ at G
 cases a0 with
 | none =>
  have hU:=SH.unoptN X
  clear X
  obtain⟨rfl,X⟩:=hU
  refine nz 1 J rfl fun U J=>wp_seq_k fun m n=>aA fun o q=>ws fun s c=>xk 1 J rfl fun U J=>x_v (v:=.bool true) J (uJ (p:=none) yU rfl (J.ev rfl) (J.ev rfl)) rfl fun U J=>x_m J rfl fun U J=>wn (c _ _ ?_)
  refine c_t (b:=true) rfl J ?_ rfl
  refine nz 1 J rfl fun U J=>?_
  replace X:=SH.optN (obj58) X
  cases G
  refine wp_ret (hQ _ _ ?_)
  exact lv Tryz.results24 J rfl ⟨rfl,X⟩
 | some a =>
  have hU:=SH.unoptS X
  clear X
  obtain⟨d,rfl,X⟩:=hU
  obtain⟨t,u,z,X⟩:=bG X
  refine nz 1 J rfl fun U J=>wp_seq_k fun A e=>aA fun B f=>ws fun C g=>xk 1 J rfl fun U J=>x_v (v:=.bool false) J (uJ (p:=some ⟨d,0,none⟩) yU rfl (J.ev rfl) (J.ev rfl)) rfl fun U J=>x_m J rfl fun U J=>wn (g _ _ ?_)
  refine c_f (b:=false) rfl J ?_ rfl
  refine ws fun D h=>xk 1 J rfl fun U J=>?_
  obtain⟨E,i,G⟩:=bnd G
  refine x_c bB2 J rfl (aJo i X :) fun v U w hR J=>?_
  obtain⟨rfl,X⟩:=hR
  refine nk 2 J rfl fun U J=>h _ _ (bA J G rfl (fun j G=>?_) fun j G=>?_)
  ·refine nz 1 J rfl fun U J=>?_
   replace X:=SH.optS (aN (x:=a) (X.pk 1 |>.pk 1))
   cases G
   refine wp_ret (hQ _ _ ?_)
   exact lv Tryz.results24 J rfl ⟨rfl,X⟩
  refine ws fun F k=>xk 2 J rfl fun U J=>aL aL6 J (fun U J=>?_) rfl
  refine aH uu4 (X.cell 0 rfl 3 _ rfl) J (fun U J=>?_) rfl
  refine x_m J rfl fun U J=>wn (k _ _ ?_)
  refine bA J G rfl (fun l G=>?_) fun l G=>?_
  ·refine nz 1 J rfl fun U J=>?_
   replace X:=SH.optS (aN (x:=a) (X.pk 1 |>.pk 1))
   cases G
   refine wp_ret (hQ _ _ ?_)
   exact lv Tryz.results24 J rfl ⟨rfl,X⟩
  refine wp_skip (f _ _ ?_)
  refine e _ _ (nz 1 J rfl fun U J=>?_)
  replace X:=SH.optS (aN (x:=a) (X.pk 1 |>.pk 1))
  cases G
  refine wp_ret (hQ _ _ ?_)
  exact lv Tryz.results24 J rfl ⟨rfl,X⟩
theorem vA {a0 g0 y} (G:jK a0=some y) (X:SH r (obj58 g0 a0::L) w) :
  Ret Tryz.prog 26 #[.pointer (some ⟨g0,0,none⟩)] w fun v w'=>v=.bool y.1∧SH r (obj58 g0 y.2::L) w':=by
 refine enter Tryz.func26 rfl Tryz.ntmps26 [(0,_)] rfl (by simp) ?_
 intro U J Qf hQ hQn
 unfold jK at G
 obtain⟨d,e,f,X⟩:=bG X
 refine nz 1 J rfl fun U J=>ws fun o h=>xk 2 J rfl fun U J=>aL aRg J (fun U J=>?_) rfl
 refine aH uu3 (X.cell 0 rfl 4 _ rfl) J (fun U J=>?_) rfl
 refine x_l G J rfl fun c _ U J G=>xk 1 J rfl fun U J=>aL aRg J (fun U J=>?_) rfl
 refine dH 0 sz3 J X rfl (fun  U w X J=>?_) rfl
 refine wn (h _ _ ?_)
 refine wp_seq_k fun i j=>?_
 have hj1:∀a b,lV a0 c a b=some y→∀U w,FR 35 [] U [(0,(pP g0))]→SH r (blk g0 58 [.slice d e f,.int .i64 a0.f1,.int .i64 a,.bool b,.int .i64 c]::own2 kp64 (kI .u8) 5 (fun x:S64=>x.f1) 64 d e f a0.f0::L) w→i U w:=by
  intro a b G U w J X
  unfold lV at G
  refine j _ _ (ws fun p k=>?_)
  refine xk 2 J rfl fun U J=>aL aL6 J (fun U J=>?_) rfl
  refine aH uu4 (X.cell 0 rfl 3 _ rfl) J (fun U J=>?_) rfl
  refine nk 2 J rfl fun U J=>?_
  replace X:=X.pk 1 |>.pk 1
  replace X:=aN (x:=(⟨a0.f0,a0.f1,a,b,c⟩:S58)) X
  cases G
  refine k _ _ (wp_ret ?_)
  refine hQ _ _ (lv Tryz.results26 J rfl ?_)
  exact⟨rfl,X⟩
 refine ws fun q l=>xk 2 J rfl fun U J=>aL aJj J (fun U J=>?_) rfl
 refine aH uu3 (X.cell 0 rfl 2 _ rfl) J (fun U J=>?_) rfl
 refine nk 1 J rfl fun U J=>l _ _ (bA J G rfl (fun m G=>?_) fun m G=>?_)
 ·refine ws fun s n=>xk 2 J rfl fun U J=>aL aJj J (fun U J=>?_) rfl
  refine aH uu3 (X.cell 0 rfl 2 _ rfl) J (fun U J=>?_) rfl
  refine x_l G J rfl fun g _ U J G=>xk 1 J rfl fun U J=>aL aJj J (fun U J=>?_) rfl
  refine dH 0 sz3 J X rfl (fun  U w X J=>?_) rfl
  refine wn (n _ _ ?_)
  refine aC (xk 3 J rfl fun U J=>?_)
  refine aL aJj J (fun U J=>?_) rfl
  refine aH uu3 (X.cell 0 rfl 2 _ rfl) J (fun U J=>?_) rfl
  refine xk 2 J rfl fun U J=>aL aL6 J (fun U J=>?_) rfl
  refine dH 0 sz4 J X rfl (fun  U w X J=>?_) rfl
  exact wpList_nil (hj1 g (g==0) G U w (J.sub _ rfl) X)
 exact wp_skip (hj1 a0.f2 a0.f3 G U w (J.sub _ rfl) X)
theorem wN {a0 p0 y} (G:kH a0=some y) (X:SH r (sS (obj58) p0 a0::L) w) :
  Ret Tryz.prog 18 #[.pointer p0] w fun v w'=>v=.int .i64 y∧SH r (sS (obj58) p0 a0::L) w':=by
 refine enter Tryz.func18 rfl Tryz.ntmps18 [(0,_)] rfl (by simp) ?_
 intro U J Qf hQ hQn
 unfold kH at G
 cases a0 with
 | none =>
  have hU:=SH.unoptN X
  clear X
  obtain⟨rfl,X⟩:=hU
  refine nz 1 J rfl fun U J=>nz 1 J rfl fun U J=>wp_seq_k fun a1 q=>ws fun a2 t=>xk 1 J rfl fun U J=>x_v (v:=.bool false) J (aB7 (p:=none) yU rfl (J.ev rfl) (J.ev rfl)) rfl fun U J=>wn (t _ _ ?_)
  refine c_f (b:=false) rfl J ?_ rfl
  refine wp_skip (q _ _ ?_)
  refine nz 2 J rfl fun U J=>?_
  replace X:=SH.optN (obj58) X
  cases G
  refine wp_ret (hQ _ _ ?_)
  exact lv Tryz.results18 J rfl ⟨rfl,X⟩
 | some a =>
  have hU:=SH.unoptS X
  clear X
  obtain⟨c,rfl,X⟩:=hU
  obtain⟨d,e,f,X⟩:=bG X
  refine nz 1 J rfl fun U J=>nz 1 J rfl fun U J=>wp_seq_k fun a3 z=>ws fun a4 A=>xk 1 J rfl fun U J=>x_v (v:=.bool true) J (aB7 (p:=some ⟨c,0,none⟩) yU rfl (J.ev rfl) (J.ev rfl)) rfl fun U J=>wn (A _ _ ?_)
  refine c_t (b:=true) rfl J ?_ rfl
  refine ws fun a5 B=>xk 2 J rfl fun U J=>aL uZ J (fun U J=>?_) rfl
  refine aH jS (X.cell 0 rfl 0 _ rfl) J (fun U J=>?_) rfl
  refine aU jS (X.rd2L 1 rfl).2.1 J (fun U J=>?_) rfl
  refine x_m J rfl fun U J=>wn (B _ _ ?_)
  refine aA fun l C=>?_
  have hb1:∀i,qN i=some y→∀U w,FR 24 [] U [(0,(pP c)),(3,.int .i64 i)]→SH r (blk c 58 [.slice d e f,.int .i64 a.f1,.int .i64 a.f2,.bool a.f3,.int .i64 a.f4]::own2 kp64 (kI .u8) 5 (fun x:S64=>x.f1) 64 d e f a.f0::L) w→l U w:=by
   intro i G U w J X
   unfold qN at G
   refine C _ _ (z _ _ ?_)
   refine nz 2 J rfl fun U J=>?_
   replace X:=SH.optS (aN (x:=a) (X.pk 1 |>.pk 1))
   cases G
   refine wp_ret (hQ _ _ ?_)
   exact lv Tryz.results18 J rfl ⟨rfl,X⟩
  obtain⟨D,E,G⟩:=bnd G
  have F:∀g,(g)=D→∀U w,FR 24 [] U [(0,(pP c)),(3,.int .i64 g)]→SH r (blk c 58 [.slice d e f,.int .i64 a.f1,.int .i64 a.f2,.bool a.f3,.int .i64 a.f4]::own2 kp64 (kI .u8) 5 (fun x:S64=>x.f1) 64 d e f a.f0::L) w→l U w:=by
   intro g ht U w J X
   subst ht
   replace G:oL g=some y:=G
   unfold oL at G
   exact hb1 g G U w (J.sub _ rfl) X
  refine aD E (fun s U w=>FR 24 [] U [(0,(pP c)),(3,.int .i64 s.1),(11,.slice d e f),(12,.int .i64 (a.f0.length:Int)),(13,.int .i64 s.2)]∧SH r (blk c 58 [.slice d e f,.int .i64 a.f1,.int .i64 a.f2,.bool a.f3,.int .i64 a.f4]::own2 kp64 (kI .u8) 5 (fun x:S64=>x.f1) 64 d e f a.f0::L) w) ⟨J.sub _ rfl,X⟩ ?_
  intro a6 H I G K M U w hLab
  obtain⟨m,N⟩:=H
  replace G:dJ a m N=some I:=G
  unfold dJ at G
  try dsimp only at hLab
  obtain⟨J,X⟩:=hLab
  refine nz 1 J rfl fun U J=>wp_seq_k fun a7 O=>bA J G rfl (fun P G=>?_) fun P G=>?_
  ·refine wp_skip (O _ _ ?_)
   refine wp_seq_k fun a8 Q=>aA fun a9 R=>ws fun b1 S=>?_
   obtain⟨k,n,G⟩:=bnd G
   refine fG jS qO (X.rd2L 1 rfl) n J (fun U J=>?_) rfl
   obtain⟨cs,hV,T⟩:=el (X.rd2L 1 rfl) n
   obtain⟨⟨W,o,Y⟩,hV,Z⟩:=hV
   obtain rfl:=hV
   refine lH (cs:=[str k.f0,.slice W o Y,.int .i64 k.f2]) aSz qO (fun j u h=>by rw [eU]; exact T _ _ h) J (fun U J=>?_) rfl
   refine gZ (cs:=[str [],.slice none 0 0,.int .i64 0]) aWd J X (fun b2 U w X J=>?_) rfl
   refine dH 0 qO J X rfl (fun  U w X J=>?_) rfl
   refine wn (S _ _ ?_)
   refine aC (x_m J rfl fun U J=>?_)
   refine aL aIw J (fun U J=>?_) rfl
   refine aH fE (X.cell 0 rfl 1 _ rfl) J (fun U J=>?_) rfl
   refine aU fE (show k.f1.length=o from Z) J (fun U J=>?_) rfl
   refine x_l G J rfl fun b3 _ U J G=>x_m J rfl fun U J=>wpList_nil (R _ _ ?_)
   refine Q _ _ (aC ?_)
   refine x_l G J rfl fun b4 _ U J G=>x_m J rfl fun U J=>wpList_nil ?_
   replace X:=X.drop 0
   cases G
   exact⟨_,K _ rfl,J.sub _ rfl,X⟩
  cases G
  exact wp_exit (F m (M _ rfl) U w (J.sub _ rfl) X)
theorem wH {a0 p0 y} (G:kP a0=some y) (X:SH r (sS (obj58) p0 a0::L) w) :
  Ret Tryz.prog 17 #[.pointer p0] w fun v w'=>∃ (B0:Option Addr) (m0:Nat) (d0:Nat),v=.slice B0 m0 d0∧SH r (own kS 9 B0 m0 d0 y::sS (obj58) p0 a0::L) w':=by
 refine enter Tryz.func17 rfl Tryz.ntmps17 [(0,_)] rfl (by simp) ?_
 intro U J Qf hQ hQn
 unfold kP at G
 cases a0 with
 | none =>
  have hU:=SH.unoptN X
  clear X
  obtain⟨rfl,X⟩:=hU
  refine nz 1 J rfl fun U J=>nz 1 J rfl fun U J=>wp_seq_k fun b6 I=>ws fun b7 K=>xk 1 J rfl fun U J=>x_v (v:=.bool false) J (aB7 (p:=none) yU rfl (J.ev rfl) (J.ev rfl)) rfl fun U J=>wn (K _ _ ?_)
  refine c_f (b:=false) rfl J ?_ rfl
  refine wp_skip (I _ _ ?_)
  refine nz 2 J rfl fun U J=>?_
  replace X:=(SH.optN (obj58) (SH.nil_own (d:=kS) (e:=9) X)).pk 1
  cases G
  refine wp_ret (hQ _ _ ?_)
  exact lv Tryz.results17 J rfl ⟨none,0,0,rfl,X⟩
 | some a =>
  have hU:=SH.unoptS X
  clear X
  obtain⟨c,rfl,X⟩:=hU
  obtain⟨f,g,i,X⟩:=bG X
  refine nz 1 J rfl fun U J=>nz 1 J rfl fun U J=>wp_seq_k fun b8 M=>ws fun b9 N=>xk 1 J rfl fun U J=>x_v (v:=.bool true) J (aB7 (p:=some ⟨c,0,none⟩) yU rfl (J.ev rfl) (J.ev rfl)) rfl fun U J=>wn (N _ _ ?_)
  refine c_t (b:=true) rfl J ?_ rfl
  refine ws fun c0 O=>xk 2 J rfl fun U J=>aL uZ J (fun U J=>?_) rfl
  refine aH jS (X.cell 0 rfl 0 _ rfl) J (fun U J=>?_) rfl
  refine aU jS (X.rd2L 1 rfl).2.1 J (fun U J=>?_) rfl
  refine x_m J rfl fun U J=>wn (O _ _ ?_)
  refine aA fun E P=>?_
  have hb1:∀D,qP D=some y→∀m n o U w,FR 24 [] U [(0,(pP c)),(3,.slice m n o)]→SH r (blk c 58 [.slice f g i,.int .i64 a.f1,.int .i64 a.f2,.bool a.f3,.int .i64 a.f4]::own2 kp64 (kI .u8) 5 (fun x:S64=>x.f1) 64 f g i a.f0::own kS 9 m n o D::L) w→E U w:=by
   intro D G m n o U w J X
   unfold qP at G
   refine P _ _ (M _ _ ?_)
   refine nz 2 J rfl fun U J=>?_
   replace X:=(SH.optS (aN (x:=a) (X.pk 1 |>.pk 1))).pk 1
   cases G
   refine wp_ret (hQ _ _ ?_)
   exact lv Tryz.results17 J rfl ⟨m,n,o,rfl,X⟩
  obtain⟨Q,R,G⟩:=bnd G
  have S:∀l,(l)=Q→∀q t z U w,FR 24 [] U [(0,(pP c)),(3,.slice q t z)]→SH r (blk c 58 [.slice f g i,.int .i64 a.f1,.int .i64 a.f2,.bool a.f3,.int .i64 a.f4]::own2 kp64 (kI .u8) 5 (fun x:S64=>x.f1) 64 f g i a.f0::own kS 9 q t z l::L) w→E U w:=by
   intro l ht q t z U w J X
   subst ht
   replace G:oN l=some y:=G
   unfold oN at G
   exact hb1 l G q t z U w (J.sub _ rfl) X
  replace X:=(SH.nil_own (d:=kS) (e:=9) X).pk 2 |>.pk 2
  refine aD R (fun s U w=>∃A B C,FR 24 [] U [(0,(pP c)),(3,.slice A B C),(11,.slice f g i),(12,.int .i64 (a.f0.length:Int)),(13,.int .i64 s.2)]∧SH r (blk c 58 [.slice f g i,.int .i64 a.f1,.int .i64 a.f2,.bool a.f3,.int .i64 a.f4]::own2 kp64 (kI .u8) 5 (fun x:S64=>x.f1) 64 f g i a.f0::own kS 9 A B C s.1::L) w) ⟨none,0,0,J.sub _ rfl,X⟩ ?_
  intro c1 T W G Y Z U w hLab
  obtain⟨F,a1⟩:=T
  replace G:dI a F a1=some W:=G
  unfold dI at G
  try dsimp only at hLab
  obtain⟨A,B,C,J,X⟩:=hLab
  refine nz 1 J rfl fun U J=>wp_seq_k fun c2 a2=>bA J G rfl (fun a3 G=>?_) fun a3 G=>?_
  ·refine wp_skip (a2 _ _ ?_)
   refine wp_seq_k fun c3 a4=>aA fun c4 a5=>ws fun c5 a6=>?_
   obtain⟨k,H,G⟩:=bnd G
   refine fG jS qO (X.rd2L 1 rfl) H J (fun U J=>?_) rfl
   obtain⟨cs,hV,a7⟩:=el (X.rd2L 1 rfl) H
   obtain⟨⟨a8,a9,b1⟩,hV,c6⟩:=hV
   obtain rfl:=hV
   refine lH (cs:=[str k.f0,.slice a8 a9 b1,.int .i64 k.f2]) aSz qO (fun j u h=>by rw [eU]; exact a7 _ _ h) J (fun U J=>?_) rfl
   refine gZ (cs:=[str [],.slice none 0 0,.int .i64 0]) aWd J X (fun c7 U w X J=>?_) rfl
   refine dH 0 qO J X rfl (fun  U w X J=>?_) rfl
   refine wn (a6 _ _ ?_)
   refine aC (x_m J rfl fun U J=>?_)
   refine aL aMj J (fun U J=>?_) rfl
   refine aH uu9 (X.cell 0 rfl 0 _ rfl) J (fun U J=>?_) rfl
   refine iM (d:=kS) (e:=9) (ps:=#[(0,str k.f0)]) (cells:=[str k.f0]) (xs:=[k.f0]) (fun w=>by kernel_rfl) rfl ⟨[str k.f0],_,rfl,rfl,rfl⟩ J X (fun c8 U w X J=>?_) rfl
   obtain⟨b2,G⟩:=aB G
   have hr:=X.rd 0 rfl
   refine gH 4 aJx lG J X hr.1 hr.2.1 b2 rfl (fun b3 b4 b5 U w X J=>?_) rfl
   refine x_m J rfl fun U J=>wpList_nil (a5 _ _ ?_)
   refine a4 _ _ (aC ?_)
   refine x_l G J rfl fun c9 _ U J G=>x_m J rfl fun U J=>wpList_nil ?_
   replace X:=X.drop 1 |>.drop 1 |>.pk 2 |>.pk 2
   cases G
   exact⟨_,Y _ rfl,b3,b4,b5,J.sub _ rfl,X⟩
  cases G
  exact wp_exit (S F (Z _ rfl) A B C U w (J.sub _ rfl) X)
theorem aDp {a0 y} (G:wC a0=some y) (X:SH r (L) w) :
  Ret Tryz.prog 11 #[.int .i64 a0] w fun v w'=>∃ (p0:Option Addr),v=.tuple #[(.pointer p0),(.int .i64 y.2)]∧SH r (sS (obj58) p0 y.1::L) w':=by
 refine enter Tryz.func11 rfl Tryz.ntmps11 [(0,_)] rfl (by simp) ?_
 intro U J Qf hQ hQn
 unfold wC at G
 refine nz 2 J rfl fun U J=>wp_seq_k fun l c=>wp_seq_k fun f h=>?_
 have hj1:∀a,tC a0 a=some y→∀U w,FR 13 [] U [(0,.int .i64 a0),(9,.bool a)]→SH r (L) w→f U w:=by
  intro a G U w J X
  unfold tC at G
  refine h _ _ (bA J G rfl (fun i G=>?_) fun i G=>?_)
  ·refine nz 2 J rfl fun U J=>?_
   replace X:=SH.optN (obj58) X
   cases G
   refine wp_ret (hQ _ _ ?_)
   exact lv2 Tryz.results11 J rfl rfl ⟨none,rfl,X⟩
  refine wp_skip (c _ _ ?_)
  refine ws fun m j=>xk 1 J rfl fun U J=>x_v (v:=.agg #[.slice none 0 0,.int .i64 a0,.int .i64 0,.bool false,.int .i64 0]) J (qB (ps:=#[(1,.int .i64 a0)]) rfl (sB J rfl) (fun w=>by kernel_rfl)) rfl fun U J=>mY J X (fun k U w X J=>?_) rfl
  refine nk 2 J rfl fun U J=>?_
  replace X:=aPk (dp:=kp64) (d:=(kI .u8)) (e':=5) (g:=(fun x:S64=>x.f1)) (e:=64) X
  replace X:=X.pk 1
  replace X:=SH.optS (aN (x:=(⟨[],a0,0,false,0⟩:S58)) X)
  cases G
  refine j _ _ (wp_ret ?_)
  refine hQ _ _ (lv2 Tryz.results11 J rfl rfl ?_)
  exact⟨some ⟨k,0,none⟩,rfl,X⟩
 refine aC (xk 3 J rfl fun U J=>?_)
 refine bcG G (fun b G=>?_) fun b G=>?_
 ·exact ng 3 b J rfl rfl fun U J=>hj1 true G U w (J.sub _ rfl) X
 exact ng 3 b J rfl rfl fun U J=>hj1 (decide (16777216<a0)) G U w (J.sub _ rfl) X
theorem aAj {a0 a1 a2 p0 A2 n2 c2 y} (G:nR a0 a1 a2=some y) (X:SH r (sS (obj58) p0 a0::L) w) (ha2:RdL L (kI .u8) A2 n2 c2 a2) :
  Ret Tryz.prog 12 #[.pointer p0,str a1,.slice A2 n2 c2] w fun v w'=>v=.int .i64 y.1∧SH r (sS (obj58) p0 y.2::L) w':=by
 refine enter Tryz.func12 rfl Tryz.ntmps12 [(0,_),(1,_),(2,_)] rfl (by simp) ?_
 intro U J Qf hQ hQn
 unfold nR at G
 cases a0 with
 | none =>
  have hU:=SH.unoptN X
  clear X
  obtain⟨rfl,X⟩:=hU
  refine nz 1 J rfl fun U J=>wp_seq_k fun d4 T=>ws fun d5 W=>xk 2 J rfl fun U J=>?_
  replace X:=SH.optN (obj58) X
  obtain⟨d6,Y,G⟩:=bnd G
  refine x_c aR3 J rfl (kV Y X :) fun v U w hR J=>?_
  obtain⟨rfl,X⟩:=hR
  refine x_m J rfl fun U J=>wn (W _ _ ?_)
  refine nz 2 J rfl fun U J=>bA J G rfl (fun Z G=>?_) fun Z G=>?_
  ·refine nz 2 J rfl fun U J=>?_
   replace X:=(SH.optN (obj58) X).drop 1
   cases G
   refine wp_ret (hQ _ _ ?_)
   exact lv Tryz.results12 J rfl ⟨rfl,X⟩
  refine wp_skip (T _ _ ?_)
  refine ws fun d7 d8=>xk 2 J rfl fun U J=>?_
  cases G
 | some i =>
  have hU:=SH.unoptS X
  clear X
  obtain⟨b,rfl,X⟩:=hU
  obtain⟨d9,e0,e1,X⟩:=bG X
  refine nz 1 J rfl fun U J=>wp_seq_k fun e2 a3=>ws fun e3 a4=>xk 2 J rfl fun U J=>?_
  replace X:=SH.optS (aN (x:=i) (X.pk 1 |>.pk 1))
  obtain⟨e4,a5,G⟩:=bnd G
  refine x_c aR3 J rfl (kV a5 X :) fun v U w hR J=>?_
  obtain⟨rfl,X⟩:=hR
  obtain⟨e5,e6,e7,X⟩:=bG (SH.unoptP X)
  refine x_m J rfl fun U J=>wn (a4 _ _ ?_)
  refine nz 2 J rfl fun U J=>bA J G rfl (fun a6 G=>?_) fun a6 G=>?_
  ·refine nz 2 J rfl fun U J=>?_
   replace X:=SH.optS (aN (x:=i) (X.pk 1 |>.pk 1))
   cases G
   refine wp_ret (hQ _ _ ?_)
   exact lv Tryz.results12 J rfl ⟨rfl,X⟩
  refine wp_skip (a3 _ _ ?_)
  refine ws fun e8 a7=>xk 2 J rfl fun U J=>?_
  replace X:=X.pk 1 |>.pk 1
  obtain⟨a,a8,G⟩:=bnd G
  refine x_c aWm J rfl (rH a8 X :) fun v U w hR J=>?_
  obtain⟨rfl,X⟩:=hR
  refine nk 5 J rfl fun U J=>a7 _ _ (wp_seq_k fun e9 a9=>?_)
  refine wp_seq_k fun b1 b2=>?_
  have hj1:∀A,eA a1 a2 i a A=some y→∀B C D U w,FR 80 [] U [(0,(pP b)),(1,str a1),(2,.slice A2 n2 c2),(8,.int .i64 a.1),(9,.bool a.2),(44,.bool A)]→SH r (blk b 58 [.slice B C D,.int .i64 i.f1,.int .i64 i.f2,.bool i.f3,.int .i64 i.f4]::own2 kp64 (kI .u8) 5 (fun x:S64=>x.f1) 64 B C D i.f0::L) w→b1 U w:=by
   intro A G B C D U w J X
   unfold eA at G
   refine b2 _ _ (bA J G rfl (fun b3 G=>?_) fun b3 G=>?_)
   ·refine nz 1 J rfl fun U J=>?_
    replace X:=SH.optS (aN (x:=i) (X.pk 1 |>.pk 1))
    cases G
    refine wp_ret (hQ _ _ ?_)
    exact lv Tryz.results12 J rfl ⟨rfl,X⟩
   refine wp_skip (a9 _ _ ?_)
   refine ws fun f5 b4=>xk 1 J rfl fun U J=>?_
   replace X:=aN (x:=i) (X.pk 1 |>.pk 1)
   obtain⟨j,b5,G⟩:=bnd G
   refine x_c bAd J rfl (vA b5 X :) fun v U w hR J=>?_
   obtain⟨rfl,X⟩:=hR
   obtain⟨M,N,O,X⟩:=bG X
   refine x_m J rfl fun U J=>wn (b4 _ _ ?_)
   refine wp_seq_k fun b6 b7=>?_
   have hj2:∀p,fW a2 a j p=some y→∀o q s U w,FR 80 [] U [(0,(pP b)),(2,.slice A2 n2 c2),(8,.int .i64 a.1),(10,.bool j.1)]→SH r (blk b 58 [.slice o q s,.int .i64 j.2.f1,.int .i64 j.2.f2,.bool j.2.f3,.int .i64 j.2.f4]::own2 kp64 (kI .u8) 5 (fun x:S64=>x.f1) 64 o q s p::L) w→b6 U w:=by
    intro p G o q s U w J X
    unfold fW at G
    refine b7 _ _ (wp_seq_k fun f6 b8=>?_)
    refine cP [0,1,3,7,0,0,32,96,224,0,992,2016,4064,0,16352,32767,65535,131071] [14,17] rfl J X (by kernel_rfl) (by kernel_rfl) (by kernel_rfl) (by kernel_rfl) fun w X=>?_
    obtain⟨n,E,G⟩:=bnd G
    have hS_172:=X
    obtain⟨f7,b9,c0,c1,P,F,X⟩:=aE7 (X.pk 1) E
    obtain⟨cs,hV,c3⟩:=el (X.rd 0 rfl) F
    obtain rfl:=hV
    refine⟨[(0,(pP b)),(1,(pP b)),(2,(pP b)),(3,.slice o q s),(4,.int .i64 a.1),(5,(pP b)),(6,(pP b)),(7,(pP b)),(8,.slice o q s),(9,.int .i64 a.1),(10,.pointer (some (ea o (a.1.toNat * 3)))),(11,.pointer (some (ea o (a.1.toNat * 3+1)))),(12,.slice b9 c0 c1),(13,.slice A2 n2 c2)],?_⟩
    refine dF [0,1,2,3,4,5,6,7,8,9,10,11,12,13] [14] (by kernel_rfl) ⟨pm rfl,pt [(61,_)] rfl (fun U J=>dC rfl (J.ev rfl)),pt [(62,_)] rfl (fun U J=>eR uZ J rfl rfl),pt [(63,_)] rfl (fun U J=>cM jS (hS_172.cell 0 rfl 0 _ rfl) J rfl rfl rfl),pm rfl,pm rfl,pt [(66,_)] rfl (fun U J=>dC rfl (J.ev rfl)),pt [(67,_)] rfl (fun U J=>eR uZ J rfl rfl),pt [(68,_)] rfl (fun U J=>cM jS (hS_172.cell 0 rfl 0 _ rfl) J rfl rfl rfl),pm rfl,pt [(69,_),(70,_)] rfl (fun U J=>fH jS qO (hS_172.rd2L 1 rfl) E J rfl rfl rfl),pt [(71,_)] rfl (fun U J=>aVw (m:=a.1.toNat * 3) aIw J rfl rfl),pt [(72,_)] rfl (fun U J=>cM fE (c3 1 _ rfl) J rfl rfl rfl),pm rfl,trivial⟩ ⟨et [(73,_),(74,_)] rfl (fun U J K hK=>?_),trivial⟩
    obtain⟨c4,G⟩:=aB G
    have hr:=X.rdl 4 ha2 rfl
    refine cQ 1 aC6 fE J X hr.1 hr.2.1 c4 rfl (fun Q R S w X=>?_) rfl
    refine hK _ [(15,.pointer (some (ea o (a.1.toNat * 3)))),(16,.pointer (some (ea o (a.1.toNat * 3+1))))] _ rfl (dF [0,1,2,3,4,15,16] [17] (by kernel_rfl) ⟨pm rfl,pt [(61,_)] rfl (fun U J=>dC rfl (J.ev rfl)),pt [(62,_)] rfl (fun U J=>eR uZ J rfl rfl),pt [(63,_)] rfl (fun U J=>cM jS (X.cell 3 rfl 0 _ rfl) J rfl rfl rfl),pm rfl,pt [(64,_),(65,_)] rfl (fun U J=>fH jS qO (X.rdp 1 rfl P) E J rfl rfl rfl),pt [(76,_)] rfl (fun U J=>aVw (m:=a.1.toNat * 3) aIw J rfl rfl),trivial⟩ ⟨et [(75,_),(77,_)] rfl (fun U J K hK=>?_),trivial⟩)
    refine xD (z':=((⟨n.f0,n.f1++a2,n.f2⟩:S64),Q,R,S)) (off:=1) (vs:=[.slice Q R S]) 1 aDb J X rfl (dQ F).2.2 (fun c h=>by cases h; rfl) (fun  w X=>?_) rfl rfl rfl rfl rfl rfl
    replace X:=X.pk 2 |>.pk 2 |>.pk 2
    replace X:=aT3 (g:=(fun x:S64=>x.f1)) (x':=(⟨n.f0,n.f1++a2,n.f2⟩:S64)) P F X
    refine hK _ [] _ rfl (gK [] (by kernel_rfl) trivial ⟨by kernel_rfl,by kernel_rfl⟩ [(0,_),(10,_)] rfl (fun U J=>?_))
    refine b8 _ _ (wp_seq_k fun f8 c5=>?_)
    refine nz 2 J rfl fun U J=>bA J G rfl (fun c6 G=>?_) fun c6 G=>?_
    ·refine nz 1 J rfl fun U J=>?_
     replace X:=X.pk 1
     replace X:=SH.optS (aN (x:=(⟨p.set a.1.toNat (⟨n.f0,n.f1++a2,n.f2⟩:S64),j.2.f1,j.2.f2,j.2.f3,j.2.f4⟩:S58)) X)
     cases G
     refine wp_ret (hQ _ _ ?_)
     exact lv Tryz.results12 J rfl ⟨rfl,X⟩
    refine wp_skip (c5 _ _ ?_)
    refine nz 1 J rfl fun U J=>?_
    replace X:=X.pk 1
    replace X:=SH.optS (aN (x:=(⟨p.set a.1.toNat (⟨n.f0,n.f1++a2,n.f2⟩:S64),j.2.f1,j.2.f2,j.2.f3,j.2.f4⟩:S58)) X)
    cases G
    refine wp_ret (hQ _ _ ?_)
    exact lv Tryz.results12 J rfl ⟨rfl,X⟩
   refine nz 2 J rfl fun U J=>bA J G rfl (fun c7 G=>?_) fun c7 G=>?_
   ·refine aC (xk 3 J rfl fun U J=>?_)
    refine aL uZ J (fun U J=>?_) rfl
    refine aH jS (X.cell 0 rfl 0 _ rfl) J (fun U J=>?_) rfl
    refine xk 2 J rfl fun U J=>x_v (v:=.agg #[str a1,.slice none 0 0,.int .i64 0]) J (qB (ps:=#[(0,str a1)]) rfl (sB J rfl) (fun w=>by kernel_rfl)) rfl fun U J=>?_
    replace X:=SH.nil_own (d:=(kI .u8)) (e:=5) X
    refine iM (d:=kp64) (e:=64) (ps:=#[(0,.agg #[str a1,.slice none 0 0,.int .i64 0])]) (cells:=[str a1,.slice none 0 0,.int .i64 0]) (xs:=[((⟨a1,[],0⟩:S64),none,0,0)]) (fun w=>by kernel_rfl) rfl ⟨[str a1,.slice none 0 0,.int .i64 0],_,rfl,rfl,rfl⟩ J X (fun f9 U w X J=>?_) rfl
    replace X:=aQv (g:=(fun x:S64=>x.f1)) (x:=(⟨a1,[],0⟩:S64)) X
    replace X:=X.pk 2
    obtain⟨c8,c9,G⟩:=bnd G
    refine x_c bCj J rfl (aX8 (L:=blk b 58 [.slice M N O,.int .i64 j.2.f1,.int .i64 j.2.f2,.bool j.2.f3,.int .i64 j.2.f4]::L) j.2.f0 a.1 [(⟨a1,[],0⟩:S64)] c9 X) fun v U w hR J=>?_
    obtain⟨d0,d1,d2,rfl,X⟩:=hR
    refine xk 1 J rfl fun U J=>aL uZ J (fun U J=>?_) rfl
    refine dH 1 bAq J X rfl (fun  U w X J=>?_) rfl
    exact wpList_nil (hj2 c8 G d0 d1 d2 U w (J.sub _ rfl) X)
   exact wp_skip (hj2 j.2.f0 G M N O U w (J.sub _ rfl) X)
  refine cP [0,1,0,4,12,28,0,64,252,511,1023,2047,4095,8191,16383,32767,65535,131071,262143,524287,1048575,2097151] [7] rfl J X (by kernel_rfl) (by kernel_rfl) (by kernel_rfl) (by kernel_rfl) fun w X=>⟨[(0,.slice A2 n2 c2),(1,.int .i64 (a2.length:Int)),(2,(pP b)),(3,(pP b)),(4,.pointer (some ⟨b,1,none⟩)),(5,.int .i64 i.f1),(6,(pP b))],?_⟩
  refine dF [0,1,2,3,4,5,6] [7] (by kernel_rfl) ⟨pm rfl,pt [(23,_)] rfl (fun U J=>aD0 fE (X.rdl 2 ha2 rfl).2.1 J rfl rfl),pm rfl,pt [(25,_)] rfl (fun U J=>dC rfl (J.ev rfl)),pt [(26,_)] rfl (fun U J=>eR aIe J rfl rfl),pt [(27,_)] rfl (fun U J=>cM uu3 (X.cell 0 rfl 1 _ rfl) J rfl rfl rfl),pm rfl,trivial⟩ ⟨et [(29,_)] rfl (fun U J K hK=>?_),trivial⟩
  replace X:=SH.optS (aN (x:=i) (X.pk 1 |>.pk 1))
  obtain⟨H,d3,G⟩:=bnd G
  refine nQ aY3 J (wN d3 X :) (fun v w hR=>?_) rfl
  obtain⟨rfl,X⟩:=hR
  obtain⟨t,u,z,X⟩:=bG (SH.unoptP X)
  obtain⟨f,I,G⟩:=nO G
  refine bcG G (fun k G=>?_) fun k G=>?_
  ·refine hK _ [(8,.int .i64 f),(9,.bool (decide (f<(a2.length:Int)))),(10,.bool (decide (f<(a2.length:Int)))),(11,undef),(12,undef),(13,undef),(14,undef),(15,undef),(16,undef),(17,undef),(18,undef),(19,undef),(20,undef),(21,.bool true)] _ rfl ?_
   refine gK [0,1,2,3,4,5,8,9,10,11,12,13,14,15,16,17,18,19,20,21] (by kernel_rfl) ⟨pm rfl,pt [(23,.slice A2 n2 c2)] rfl (fun U J=>aD0 fE (X.rdl 2 ha2 rfl).2.1 J rfl rfl),pm rfl,pt [(25,(pP b))] rfl (fun U J=>dC rfl (J.ev rfl)),pt [(26,(pP b))] rfl (fun U J=>eR aIe J rfl rfl),pt [(27,.pointer (some ⟨b,1,none⟩))] rfl (fun U J=>cM uu3 (X.cell 0 rfl 1 _ rfl) J rfl rfl rfl),pt [(28,.int .i64 i.f1),(30,.int .i64 H)] rfl fun U J=>kQ I (oZ rfl (J.ev rfl) (J.ev rfl)),pt [(24,.int .i64 (a2.length:Int)),(31,.int .i64 f)] rfl (fun U J=>aBi rfl (J.ev rfl) (J.ev rfl)),pm rfl,eH rfl rfl rfl rfl [(9,.bool a.2),(33,.bool (decide (f<(a2.length:Int))))] rfl k rfl,eH rfl rfl rfl rfl [(33,.bool (decide (f<(a2.length:Int)))),(34,undef)] rfl k rfl,eH rfl rfl rfl rfl [(33,.bool (decide (f<(a2.length:Int)))),(35,undef)] rfl k rfl,aDj rfl rfl rfl rfl [(0,(pP b)),(36,undef)] rfl rfl,aDj rfl rfl rfl rfl [(36,undef),(37,undef)] rfl rfl,aDj rfl rfl rfl rfl [(36,undef),(38,undef)] rfl rfl,aDj rfl rfl rfl rfl [(36,undef),(39,undef)] rfl rfl,aDj rfl rfl rfl rfl [(36,undef),(40,undef)] rfl rfl,aDj rfl rfl rfl rfl [(36,undef),(41,undef)] rfl rfl,eH rfl rfl rfl rfl [(33,.bool (decide (f<(a2.length:Int)))),(36,undef),(42,undef)] rfl k rfl,pt [(33,.bool (decide (f<(a2.length:Int)))),(43,undef)] rfl (fun U J=>aAr k J rfl rfl rfl),trivial⟩ ⟨by kernel_rfl,by kernel_rfl⟩ [(0,_),(1,_),(2,_),(8,_),(9,_),(44,_)] rfl (fun U J=>?_)
   exact hj1 true G t u z U w (J.sub _ rfl) X
  refine bcG G (fun l G=>?_) fun l G=>?_
  ·refine hK _ [(8,.int .i64 f),(9,.bool (decide (f<(a2.length:Int)))),(10,.bool (decide (f<(a2.length:Int)))),(11,.bool a.2),(12,.bool (!a.2)),(13,.bool (!a.2)),(14,(pP b)),(15,(pP b)),(16,(pP b)),(17,.slice t u z),(18,.int .i64 (i.f0.length:Int)),(19,.bool (decide (500≤(i.f0.length:Int)))),(20,.bool (decide (500≤(i.f0.length:Int)))),(21,.bool (decide (500≤(i.f0.length:Int))))] _ rfl ?_
   refine gK [0,1,2,3,4,5,8,9,10,11,12,13,14,15,16,17,18,19,20,21] (by kernel_rfl) ⟨pm rfl,pt [(23,.slice A2 n2 c2)] rfl (fun U J=>aD0 fE (X.rdl 2 ha2 rfl).2.1 J rfl rfl),pm rfl,pt [(25,(pP b))] rfl (fun U J=>dC rfl (J.ev rfl)),pt [(26,(pP b))] rfl (fun U J=>eR aIe J rfl rfl),pt [(27,.pointer (some ⟨b,1,none⟩))] rfl (fun U J=>cM uu3 (X.cell 0 rfl 1 _ rfl) J rfl rfl rfl),pt [(28,.int .i64 i.f1),(30,.int .i64 H)] rfl fun U J=>kQ I (oZ rfl (J.ev rfl) (J.ev rfl)),pt [(24,.int .i64 (a2.length:Int)),(31,.int .i64 f)] rfl (fun U J=>aBi rfl (J.ev rfl) (J.ev rfl)),pm rfl,iB rfl rfl rfl rfl [(9,.bool a.2),(33,.bool (decide (f<(a2.length:Int))))] rfl k (fun U J=>mK J rfl rfl) rfl,iB rfl rfl rfl rfl [(33,.bool (decide (f<(a2.length:Int)))),(34,.bool a.2)] rfl k (fun U J=>aCc rfl (J.ev rfl)) rfl,iB rfl rfl rfl rfl [(33,.bool (decide (f<(a2.length:Int)))),(35,.bool (!a.2))] rfl k (fun U J=>mK J rfl rfl) rfl,iB rfl rfl rfl rfl [(0,(pP b)),(36,.bool (!a.2))] rfl l (fun U J=>mK J rfl rfl) rfl,iB rfl rfl rfl rfl [(36,.bool (!a.2)),(37,(pP b))] rfl l (fun U J=>dC rfl (J.ev rfl)) rfl,iB rfl rfl rfl rfl [(36,.bool (!a.2)),(38,(pP b))] rfl l (fun U J=>eR uZ J rfl rfl) rfl,iB rfl rfl rfl rfl [(36,.bool (!a.2)),(39,(pP b))] rfl l (fun U J=>cM jS (X.cell 0 rfl 0 _ rfl) J rfl rfl rfl) rfl,iB rfl rfl rfl rfl [(36,.bool (!a.2)),(40,.slice t u z)] rfl l (fun U J=>aD0 jS (X.rd2L 1 rfl).2.1 J rfl rfl) rfl,iB rfl rfl rfl rfl [(36,.bool (!a.2)),(41,.int .i64 (i.f0.length:Int))] rfl l (fun U J=>aV9 rfl (J.ev rfl) (J.ev rfl)) rfl,iB rfl rfl rfl rfl [(33,.bool (decide (f<(a2.length:Int)))),(36,.bool (!a.2)),(42,.bool (decide (500≤(i.f0.length:Int))))] rfl k (fun U J=>aAr l J rfl rfl rfl) rfl,pt [(33,.bool (decide (f<(a2.length:Int)))),(43,.bool (decide (500≤(i.f0.length:Int))))] rfl (fun U J=>yW k J rfl rfl rfl),trivial⟩ ⟨by kernel_rfl,by kernel_rfl⟩ [(0,_),(1,_),(2,_),(8,_),(9,_),(44,_)] rfl (fun U J=>?_)
   exact hj1 (decide (500≤(i.f0.length:Int))) G t u z U w (J.sub _ rfl) X
  refine hK _ [(8,.int .i64 f),(9,.bool (decide (f<(a2.length:Int)))),(10,.bool (decide (f<(a2.length:Int)))),(11,.bool a.2),(12,.bool (!a.2)),(13,.bool (!a.2)),(14,undef),(15,undef),(16,undef),(17,undef),(18,undef),(19,undef),(20,.bool false),(21,.bool false)] _ rfl ?_
  refine gK [0,1,2,3,4,5,8,9,10,11,12,13,14,15,16,17,18,19,20,21] (by kernel_rfl) ⟨pm rfl,pt [(23,.slice A2 n2 c2)] rfl (fun U J=>aD0 fE (X.rdl 2 ha2 rfl).2.1 J rfl rfl),pm rfl,pt [(25,(pP b))] rfl (fun U J=>dC rfl (J.ev rfl)),pt [(26,(pP b))] rfl (fun U J=>eR aIe J rfl rfl),pt [(27,.pointer (some ⟨b,1,none⟩))] rfl (fun U J=>cM uu3 (X.cell 0 rfl 1 _ rfl) J rfl rfl rfl),pt [(28,.int .i64 i.f1),(30,.int .i64 H)] rfl fun U J=>kQ I (oZ rfl (J.ev rfl) (J.ev rfl)),pt [(24,.int .i64 (a2.length:Int)),(31,.int .i64 f)] rfl (fun U J=>aBi rfl (J.ev rfl) (J.ev rfl)),pm rfl,iB rfl rfl rfl rfl [(9,.bool a.2),(33,.bool (decide (f<(a2.length:Int))))] rfl k (fun U J=>mK J rfl rfl) rfl,iB rfl rfl rfl rfl [(33,.bool (decide (f<(a2.length:Int)))),(34,.bool a.2)] rfl k (fun U J=>aCc rfl (J.ev rfl)) rfl,iB rfl rfl rfl rfl [(33,.bool (decide (f<(a2.length:Int)))),(35,.bool (!a.2))] rfl k (fun U J=>mK J rfl rfl) rfl,eH rfl rfl rfl rfl [(0,(pP b)),(36,.bool (!a.2))] rfl l rfl,eH rfl rfl rfl rfl [(36,.bool (!a.2)),(37,undef)] rfl l rfl,eH rfl rfl rfl rfl [(36,.bool (!a.2)),(38,undef)] rfl l rfl,eH rfl rfl rfl rfl [(36,.bool (!a.2)),(39,undef)] rfl l rfl,eH rfl rfl rfl rfl [(36,.bool (!a.2)),(40,undef)] rfl l rfl,eH rfl rfl rfl rfl [(36,.bool (!a.2)),(41,undef)] rfl l rfl,iB rfl rfl rfl rfl [(33,.bool (decide (f<(a2.length:Int)))),(36,.bool (!a.2)),(42,undef)] rfl k (fun U J=>yW l J rfl rfl rfl) rfl,pt [(33,.bool (decide (f<(a2.length:Int)))),(43,.bool false)] rfl (fun U J=>yW k J rfl rfl rfl),trivial⟩ ⟨by kernel_rfl,by kernel_rfl⟩ [(0,_),(1,_),(2,_),(8,_),(9,_),(44,_)] rfl (fun U J=>?_)
  exact hj1 false G t u z U w (J.sub _ rfl) X
theorem aBk {a0 a1 p0 y} (G:qG a0 a1=some y) (X:SH r (sS (obj58) p0 a0::L) w) :
  Ret Tryz.prog 61 #[.pointer p0,str a1] w fun v w'=>∃ (B0:Option Addr) (m0:Nat) (d0:Nat),v=.tuple #[(.slice B0 m0 d0),(.int .i64 y.2)]∧SH r (own (kI .u8) 5 B0 m0 d0 y.1::sS (obj58) p0 a0::L) w':=by
 refine enter Tryz.func61 rfl Tryz.ntmps61 [(0,_),(1,_)] rfl (by simp) ?_
 intro U J Qf hQ hQn
 unfold qG at G
 cases a0 with
 | none =>
  have hU:=SH.unoptN X
  clear X
  obtain⟨rfl,X⟩:=hU
  refine nz 2 J rfl fun U J=>wp_seq_k fun I f=>ws fun K h=>xk 2 J rfl fun U J=>?_
  replace X:=SH.optN (obj58) X
  obtain⟨M,i,G⟩:=bnd G
  refine x_c aR3 J rfl (kV i X :) fun v U w hR J=>?_
  obtain⟨rfl,X⟩:=hR
  refine x_m J rfl fun U J=>wn (h _ _ ?_)
  refine nz 2 J rfl fun U J=>bA J G rfl (fun j G=>?_) fun j G=>?_
  ·refine nz 3 J rfl fun U J=>?_
   replace X:=(SH.optN (obj58) (SH.nil_own (d:=(kI .u8)) (e:=5) X)).drop 2 |>.pk 1
   cases G
   refine wp_ret (hQ _ _ ?_)
   exact lv2 Tryz.results61 J rfl rfl ⟨none,0,0,rfl,X⟩
  refine wp_skip (f _ _ ?_)
  refine ws fun N O=>xk 2 J rfl fun U J=>?_
  cases G
 | some a =>
  have hU:=SH.unoptS X
  clear X
  obtain⟨P,rfl,X⟩:=hU
  obtain⟨Q,R,S,X⟩:=bG X
  refine nz 2 J rfl fun U J=>wp_seq_k fun T k=>ws fun W l=>xk 2 J rfl fun U J=>?_
  replace X:=SH.optS (aN (x:=a) (X.pk 1 |>.pk 1))
  obtain⟨Y,n,G⟩:=bnd G
  refine x_c aR3 J rfl (kV n X :) fun v U w hR J=>?_
  obtain⟨rfl,X⟩:=hR
  obtain⟨Z,a2,a3,X⟩:=bG (SH.unoptP X)
  refine x_m J rfl fun U J=>wn (l _ _ ?_)
  refine nz 2 J rfl fun U J=>bA J G rfl (fun o G=>?_) fun o G=>?_
  ·refine nz 3 J rfl fun U J=>?_
   replace X:=(SH.optS (aN (x:=a) ((SH.nil_own (d:=(kI .u8)) (e:=5) X).pk 2 |>.pk 2))).pk 1
   cases G
   refine wp_ret (hQ _ _ ?_)
   exact lv2 Tryz.results61 J rfl rfl ⟨none,0,0,rfl,X⟩
  refine wp_skip (k _ _ ?_)
  refine ws fun a4 p=>xk 2 J rfl fun U J=>?_
  replace X:=X.pk 1 |>.pk 1
  obtain⟨q,s,G⟩:=bnd G
  refine x_c aWm J rfl (rH s X :) fun v U w hR J=>?_
  obtain⟨rfl,X⟩:=hR
  refine nk 5 J rfl fun U J=>p _ _ (wp_seq_k fun a5 t=>?_)
  refine nz 2 J rfl fun U J=>bA J G rfl (fun u G=>?_) fun u G=>?_
  ·refine nz 2 J rfl fun U J=>?_
   replace X:=(SH.optS (aN (x:=a) ((SH.nil_own (d:=(kI .u8)) (e:=5) X).pk 2 |>.pk 2))).pk 1
   cases G
   refine wp_ret (hQ _ _ ?_)
   exact lv2 Tryz.results61 J rfl rfl ⟨none,0,0,rfl,X⟩
  refine wp_skip (t _ _ ?_)
  refine ws fun a6 z=>xk 2 J rfl fun U J=>aL uZ J (fun U J=>?_) rfl
  refine aH jS (X.cell 0 rfl 0 _ rfl) J (fun U J=>?_) rfl
  refine x_m J rfl fun U J=>?_
  obtain⟨A,b,G⟩:=bnd G
  refine fG jS qO (X.rd2L 1 rfl) b J (fun U J=>?_) rfl
  refine aU8 (m:=q.1.toNat * 3) aIw J (fun U J=>?_) rfl rfl rfl rfl rfl
  obtain⟨a7,a8,a9,b1,B,c,X⟩:=aE7 (X.pk 1) b
  obtain⟨cs,hV,C⟩:=el (X.rd 0 rfl) c
  obtain rfl:=hV
  refine aH fE (C 1 _ rfl) J (fun U J=>?_) rfl
  obtain⟨b2,D,G⟩:=bnd G
  refine x_c aYa J rfl (qY D X (RdL.own 1 rfl (X.dropN 0)) :) fun v U w hR J=>?_
  obtain⟨E,F,H,rfl,X⟩:=hR
  refine nk 2 J rfl fun U J=>?_
  replace X:=X.pk 3 |>.pk 3 |>.pk 3
  replace X:=aQe (g:=(fun x:S64=>x.f1)) (x:=A) B c X
  replace X:=(SH.optS (aN (x:=a) (X.pk 2))).pk 1
  cases G
  refine z _ _ (wp_ret ?_)
  refine hQ _ _ (lv2 Tryz.results61 J rfl rfl ?_)
  exact⟨E,F,H,rfl,X⟩
end
noncomputable section
set_option linter.unusedSimpArgs false
def mB (a0:Int) (a1:S58):Option (S58) :=
  ltt (IntKind.i64.wrap (a0+1)) fun a=>((aTg a1.f0 a0 a).bind fun b=>(some (⟨b,a1.f1,a1.f2,a1.f3,a1.f4⟩:S58)))
end
section
variable {r:World} {L:List HP} {w:World} {Z:Nat→Prop} {wz:World}
theorem yV {a0 a1 g1 h1 y} (G:mB a0 a1=some y) (X:SH r (blk g1 27 [.pointer (some ⟨h1,0,none⟩)]::obj58 h1 a1::L) w) :
  Ret Tryz.prog 49 #[.int .i64 a0,(pP g1)] w fun v w'=>v=.tuple #[]∧SH r (blk g1 27 [.pointer (some ⟨h1,0,none⟩)]::obj58 h1 y::L) w':=by
 refine enter Tryz.func49 rfl Tryz.ntmps49 [(0,_),(1,_)] rfl (by simp) ?_
 intro U J Qf hQ hQn
 unfold mB at G
 obtain⟨a,b,c,X⟩:=bG (X.pk 1)
 refine cP [0,0,2,6,14,0,0,64,254,511,1023,2047] [8,11] rfl J X (by kernel_rfl) (by kernel_rfl) (by kernel_rfl) (by kernel_rfl) fun w X=>?_
 obtain⟨d,e,G⟩:=nO G
 refine⟨[(0,(pP h1)),(1,(pP h1)),(2,(pP h1)),(3,(pP h1)),(4,.slice a b c),(5,.int .i64 a0),(6,.int .i64 a0),(7,.int .i64 d)],?_⟩
 refine dF [0,1,2,3,4,5,6,7] [8] (by kernel_rfl) ⟨pt [(1,_)] rfl (fun U J=>cM yU (X.cell 2 rfl 0 _ rfl) J rfl rfl rfl),pt [(1,_)] rfl (fun U J=>cM yU (X.cell 2 rfl 0 _ rfl) J rfl rfl rfl),pt [(4,_)] rfl (fun U J=>dC rfl (J.ev rfl)),pt [(5,_)] rfl (fun U J=>eR uZ J rfl rfl),pt [(6,_)] rfl (fun U J=>cM jS (X.cell 0 rfl 0 _ rfl) J rfl rfl rfl),pm rfl,pm rfl,pt [(9,_)] rfl fun U J=>kQ e (iP rfl (J.ev rfl) (J.ev rfl)),trivial⟩ ⟨et [(7,_),(8,_),(10,_)] rfl (fun U J K hK=>?_),trivial⟩
 replace X:=X.pk 1
 obtain⟨f,g,G⟩:=bnd G
 refine nQ bBp J (bAc (L:=blk h1 58 [.slice a b c,.int .i64 a1.f1,.int .i64 a1.f2,.bool a1.f3,.int .i64 a1.f4]::blk g1 27 [.pointer (some ⟨h1,0,none⟩)]::L) a1.f0 a0 d g X) (fun v w hR=>?_) rfl
 obtain⟨h,i,j,rfl,X⟩:=hR
 refine hK _ [(9,(pP h1)),(10,(pP h1))] _ rfl (dF [0,9,10] [11] (by kernel_rfl) ⟨pt [(1,_)] rfl (fun U J=>cM yU (X.cell 2 rfl 0 _ rfl) J rfl rfl rfl),pt [(3,_)] rfl (fun U J=>dC rfl (J.ev rfl)),pt [(12,_)] rfl (fun U J=>eR uZ J rfl rfl),trivial⟩ ⟨et [(11,_),(13,_)] rfl (fun U J K hK=>?_),trivial⟩)
 refine aMo 1 bAq J X rfl (fun  w X=>?_) rfl
 refine hK _ [] _ rfl (gK [] (by kernel_rfl) trivial ⟨by kernel_rfl,by kernel_rfl⟩ [(1,_)] rfl (fun U J=>?_))
 replace X:=X.pk 1 |>.pk 1
 replace X:=(aN (x:=(⟨f,a1.f1,a1.f2,a1.f3,a1.f4⟩:S58)) X).pk 1
 cases G
 refine hQn _ _ (aCy Tryz.results49 J ?_)
 exact⟨rfl,X⟩
end
noncomputable section
set_option linter.unusedSimpArgs false
def jQ (a1:(List UInt8)) (a:S58):Option (Int×S58) :=
  (eZ (some a) a1).bind fun c=>(if (c != 0)=true then (some (c,a)) else ((gN a a1).bind fun d=>(if (!d.2)=true then (some (5,a)) else ((jK a).bind fun b=>(if (!b.1)=true then (some (9,b.2)) else ((mB d.1 b.2).bind fun e=>(some (0,e))))))))
def kR (a0:(Option S58)) (a1:(List UInt8)):Option (Int×(Option S58)) :=
  match a0 with | none=>(none) | some b=>((jQ a1 b).bind fun a=>(some (a.1,some a.2)))
end
section
variable {r:World} {L:List HP} {w:World} {Z:Nat→Prop} {wz:World}
theorem zD {a1 a c b y} (G:jQ a1 a=some y) (X:SH r (blk c 27 [.pointer (some ⟨b,0,none⟩)]::obj58 b a::L) w) :
  Ret Tryz.prog 48 #[.pointer (some ⟨b,0,none⟩),str a1,.func (.func 49) #[] #[.pointer (some ⟨c,0,none⟩)]] w fun v w'=>v=.int .i64 y.1∧SH r (blk c 27 [.pointer (some ⟨b,0,none⟩)]::obj58 b y.2::L) w':=by
 refine enter Tryz.func48 rfl Tryz.ntmps48 [(0,_),(1,_),(2,_)] rfl (by simp) ?_
 intro U J Qf hQ hQn
 unfold jQ at G
 obtain⟨u,z,A,X⟩:=bG (X.pk 1)
 refine nz 1 J rfl fun U J=>wp_seq_k fun B e=>ws fun C f=>xk 2 J rfl fun U J=>?_
 replace X:=SH.optS (aN (x:=a) (X.pk 1 |>.pk 1))
 obtain⟨D,g,G⟩:=bnd G
 refine x_c aR3 J rfl (kV g X :) fun v U w hR J=>?_
 obtain⟨rfl,X⟩:=hR
 obtain⟨E,F,H,X⟩:=bG (SH.unoptP X)
 refine x_m J rfl fun U J=>wn (f _ _ ?_)
 refine nz 2 J rfl fun U J=>bA J G rfl (fun h G=>?_) fun h G=>?_
 ·refine nz 2 J rfl fun U J=>?_
  replace X:=(aN (x:=a) (X.pk 1 |>.pk 1)).pk 1
  cases G
  refine wp_ret (hQ _ _ ?_)
  exact lv Tryz.results48 J rfl ⟨rfl,X⟩
 refine wp_skip (e _ _ ?_)
 refine ws fun I i=>xk 2 J rfl fun U J=>?_
 replace X:=X.pk 1 |>.pk 1
 obtain⟨K,j,G⟩:=bnd G
 refine x_c aWm J rfl (rH j X :) fun v U w hR J=>?_
 obtain⟨rfl,X⟩:=hR
 refine nk 5 J rfl fun U J=>i _ _ (wp_seq_k fun M k=>?_)
 refine nz 2 J rfl fun U J=>bA J G rfl (fun l G=>?_) fun l G=>?_
 ·refine nz 1 J rfl fun U J=>?_
  replace X:=(aN (x:=a) (X.pk 1 |>.pk 1)).pk 1
  cases G
  refine wp_ret (hQ _ _ ?_)
  exact lv Tryz.results48 J rfl ⟨rfl,X⟩
 refine wp_skip (k _ _ ?_)
 refine wp_seq_k fun N m=>ws fun O n=>xk 1 J rfl fun U J=>?_
 replace X:=aN (x:=a) (X.pk 1 |>.pk 1)
 obtain⟨d,o,G⟩:=bnd G
 refine x_c bAd J rfl (vA o X :) fun v U w hR J=>?_
 obtain⟨rfl,X⟩:=hR
 obtain⟨P,Q,R,X⟩:=bG X
 refine nk 1 J rfl fun U J=>n _ _ (bA J G rfl (fun p G=>?_) fun p G=>?_)
 ·refine nz 1 J rfl fun U J=>?_
  replace X:=(aN (x:=d.2) (X.pk 1 |>.pk 1)).pk 1
  cases G
  refine wp_ret (hQ _ _ ?_)
  exact lv Tryz.results48 J rfl ⟨rfl,X⟩
 refine wp_skip (m _ _ ?_)
 refine ws fun S q=>xk 2 J rfl fun U J=>?_
 replace X:=(aN (x:=d.2) (X.pk 1 |>.pk 1)).pk 1
 obtain⟨s,t,G⟩:=bnd G
 refine x_c bCg J rfl (yV t X :) fun v U w hR J=>?_
 obtain⟨rfl,X⟩:=hR
 obtain⟨T,W,Y,X⟩:=bG (X.pk 1)
 refine wn (q _ _ ?_)
 refine nz 1 J rfl fun U J=>?_
 replace X:=(aN (x:=s) (X.pk 1 |>.pk 1)).pk 1
 cases G
 refine wp_ret (hQ _ _ ?_)
 exact lv Tryz.results48 J rfl ⟨rfl,X⟩
theorem uO {a0 a1 p0 y} (G:kR a0 a1=some y) (X:SH r (sS (obj58) p0 a0::L) w) :
  Ret Tryz.prog 33 #[.pointer p0,str a1] w fun v w'=>v=.int .i64 y.1∧SH r (sS (obj58) p0 y.2::L) w':=by
 refine enter Tryz.func33 rfl Tryz.ntmps33 [(0,_),(1,_)] rfl (by simp) ?_
 intro U J Qf hQ hQn
 unfold kR at G
 cases a0 with
 | none =>
  have hU:=SH.unoptN X
  clear X
  obtain⟨rfl,X⟩:=hU
  refine ws fun i a=>mY J X (fun b U w X J=>?_) rfl
  refine x_m J rfl fun U J=>wn (a _ _ ?_)
  refine ws fun j k=>aH yU (X.cell 0 rfl 0 _ rfl) J (fun U J=>?_) rfl
  refine x_m J rfl fun U J=>x_v J (mL rfl (rW (vals:=#[]) J rfl) (rW (vals:=#[.pointer (some ⟨b,0,none⟩)]) J rfl)) rfl fun U J=>?_
  cases G
 | some c =>
  have hU:=SH.unoptS X
  clear X
  obtain⟨l,rfl,X⟩:=hU
  obtain⟨m,n,o,X⟩:=bG X
  refine ws fun p d=>mY J X (fun e U w X J=>?_) rfl
  refine x_m J rfl fun U J=>wn (d _ _ ?_)
  refine ws fun q f=>aH yU (X.cell 0 rfl 0 _ rfl) J (fun U J=>?_) rfl
  refine x_m J rfl fun U J=>x_v J (mL rfl (rW (vals:=#[]) J rfl) (rW (vals:=#[.pointer (some ⟨e,0,none⟩)]) J rfl)) rfl fun U J=>?_
  replace X:=(aN (x:=c) (X.pk 2 |>.pk 2)).pk 1
  obtain⟨g,h,G⟩:=bnd G
  refine x_c bCr J rfl (zD h X :) fun v U w hR J=>?_
  obtain⟨rfl,X⟩:=hR
  obtain⟨s,t,u,X⟩:=bG (X.pk 1)
  refine x_m J rfl fun U J=>wn (f _ _ ?_)
  replace X:=(SH.optS (aN (x:=g.2) (X.pk 1 |>.pk 1))).drop 1
  cases G
  refine wp_ret (hQ _ _ ?_)
  exact lv Tryz.results33 J rfl ⟨rfl,X⟩
end
noncomputable section
set_option linter.unusedSimpArgs false
def nA (a0:S26):Option (Bool) :=
  if (decide (1≤a0.f0))=true then (if (decide (a0.f0≤4096))=true then (if (decide (2≤a0.f1))=true then (some (decide (a0.f1≤16))) else (some false)) else (some false)) else (some false)
def jB (a:(List Int)) (b:(List S47)):Option ((List Int)) :=
  (yG a b).bind fun c=>(some (c))
def lB (a0:S67) (a:((List UInt8))) (c:Int) (d:(List Int)):Option ((List UInt8)×Int×S67) :=
  (nR (some a0.f0) ([114,117,110,46]++a) d).bind fun b=>((b.2).bind fun e=>(some ([114,117,110,46]++a,b.1,(⟨e,a0.f1,a0.f2,c⟩:S67))))
def jJ (a0:S67) (a1:(List S47)):Option ((List UInt8)×Int×S67) :=
  (strconv_Itoa a0.f3).bind fun a=>(chk ([114,117,110,46].length+a.length≤maxLen) (ltt (IntKind.i64.wrap (a0.f3+1)) fun b=>((chk (a1.length≤4611686018427387904) ((pcs 64 a1).foldlM (fun s l=>jB s l) ([]))).bind fun t=>lB a0 a b t)))
def mD (a0:S67) (a1:(List UInt8)) (a:Int) (c:(List S47)):Option ((List S47)×Int×S67) :=
  if (a != 0)=true then (some ([],a,a0)) else ((kR (some a0.f0) a1).bind fun b=>((b.2).bind fun d=>(some (c,b.1,(⟨d,a0.f1,a0.f2,a0.f3⟩:S67)))))
def jU (a0:S67) (a1:(List UInt8)) (a:Int) (b:(List S47)):Option ((List S47)×Int×S67) :=
  mD a0 a1 a b
def gO (a0:S67) (c:((List Int)×Int)) (d:Int) (b:(List S47)) (e:Int) (f:Bool):Option ((Int×(List S47)×Int)⊕((Int×(List S47)))) :=
  if f=true then ((rN c.1 e a0.f2).bind fun a=>(chk (b.length+a.1.length≤140737488355328 / 48) (some (.inl (a.2.2,b++a.1,a.2.1))))) else (some (.inr (d,b)))
def cZ (a0:S67) (a:((List Int)×Int)) (b:Int) (d:(List S47)) (c:Int):Option ((Int×(List S47)×Int)⊕((Int×(List S47)))) :=
  if (b==0)=true then (gO a0 a b d c (decide (c<(a.1.length:Int)))) else (gO a0 a b d c false)
def jI (a0:S67) (a1:(List UInt8)):Option ((List S47)×Int×S67) :=
  (qG (some a0.f0) a1).bind fun a=>((loop (fun s=>cZ a0 a s.1 s.2.1 s.2.2) (a.2,[],0)).bind fun t=>jU a0 a1 t.1 t.2)
def uV (a:(List S64)) (b:Int) (c:Int) (d:Bool) (e:Int):Option (Int×(Option S58)) :=
  some (0,some (⟨a,b,c,d,e⟩:S58))
def oW (a:(List S64)) (b:Int) (c:Int) (d:Bool) (e:Int):Option (Int×(Option S58)) :=
  uV a b c d e
def lN (a:Int) (b:(List S64)) (c:Int) (d:Int) (e:Bool) (f:Int):Option (((List S64)×Int×Int×Bool×Int×Int)⊕(((List S64)×Int×Int×Bool×Int)⊕(Int×(Option S58)))) :=
  ltt (IntKind.i64.wrap (a+1)) fun g=>(some (.inl (b,c,d,e,f,g)))
def eD (i:((List (List UInt8)))) (c:(List S64)) (d:Int) (e:Int) (f:Bool) (g:Int) (b:Int):Option (((List S64)×Int×Int×Bool×Int×Int)⊕(((List S64)×Int×Int×Bool×Int)⊕(Int×(Option S58)))) :=
  if (decide (b<(i.length:Int)))=true then ((at_ i b).bind fun j=>((mG j [114,117,110,46]).bind fun k=>(if k=true then ((kR (some (⟨c,d,e,f,g⟩:S58)) j).bind fun h=>((h.2).bind fun a=>(if (h.1 != 0)=true then (some (.inr (.inr (h.1,some a)))) else (lN b a.f0 a.f1 a.f2 a.f3 a.f4)))) else (lN b c d e f g)))) else (some (.inr (.inl (c,d,e,f,g))))
def nX (a0:(Option S58)):Option (Int×(Option S58)) :=
  match a0 with | none=>(some (5,none)) | some a=>((kP (some a)).bind fun b=>((loop (fun s=>eD b s.1 s.2.1 s.2.2.1 s.2.2.2.1 s.2.2.2.2.1 s.2.2.2.2.2) (a.f0,a.f1,a.f2,a.f3,a.f4,0)).bind fun t=>match t with | (.inl t)=>oW t.1 t.2.1 t.2.2.1 t.2.2.2.1 t.2.2.2.2 | (.inr t)=>some t))
def mO (c:(List S64)) (d:Int) (e:Int) (f:Bool) (g:Int) (h:Int) (i:Int) (j:Int) (k:Int) (l:(List (List S47))):Option ((List UInt8)×Int×S67) :=
  (rV l).bind fun a=>(if (a.2 != 0)=true then (some ([],a.2,(⟨(⟨c,d,e,f,g⟩:S58),(⟨h,i⟩:S26),j,k⟩:S67))) else ((jJ (⟨(⟨c,d,e,f,g⟩:S58),(⟨h,i⟩:S26),j,k⟩:S67) a.1).bind fun b=>(some (b.1,b.2.1,b.2.2))))
def lD (a:(List S64)) (b:Int) (c:Int) (d:Bool) (e:Int) (f:Int) (g:Int) (h:Int) (i:Int) (j:(List (List S47))):Option ((List UInt8)×Int×S67) :=
  mO a b c d e f g h i j
def fA (a1:(List (List UInt8))) (d:(List S64)) (e:Int) (f:Int) (g:Bool) (h:Int) (i:Int) (j:Int) (k:Int) (l:Int) (b:(List (List S47))) (c:Int):Option (((List S64)×Int×Int×Bool×Int×Int×Int×Int×Int×(List (List S47))×Int)⊕(((List S64)×Int×Int×Bool×Int×Int×Int×Int×Int×(List (List S47)))⊕((List UInt8)×Int×S67))) :=
  if (decide (c<(a1.length:Int)))=true then ((at_ a1 c).bind fun m=>((jI (⟨(⟨d,e,f,g,h⟩:S58),(⟨i,j⟩:S26),k,l⟩:S67) m).bind fun a=>(if (a.2.1 != 0)=true then (some (.inr (.inr ([],a.2.1,a.2.2)))) else (chk (b.length+[a.1].length≤140737488355328 / 24) (ltt (IntKind.i64.wrap (c+1)) fun n=>(some (.inl (a.2.2.f0.f0,a.2.2.f0.f1,a.2.2.f0.f2,a.2.2.f0.f3,a.2.2.f0.f4,a.2.2.f1.f0,a.2.2.f1.f1,a.2.2.f2,a.2.2.f3,b++[a.1],n)))))))) else (some (.inr (.inl (d,e,f,g,h,i,j,k,l,b))))
def mW (a0:S67) (a1:(List (List UInt8))):Option ((List UInt8)×Int×S67) :=
  if ((a1.length:Int)==1)=true then ((at_ a1 0).bind fun a=>(some (a,0,a0))) else ((loop (fun s=>fA a1 s.1 s.2.1 s.2.2.1 s.2.2.2.1 s.2.2.2.2.1 s.2.2.2.2.2.1 s.2.2.2.2.2.2.1 s.2.2.2.2.2.2.2.1 s.2.2.2.2.2.2.2.2.1 s.2.2.2.2.2.2.2.2.2.1 s.2.2.2.2.2.2.2.2.2.2) (a0.f0.f0,a0.f0.f1,a0.f0.f2,a0.f0.f3,a0.f0.f4,a0.f1.f0,a0.f1.f1,a0.f2,a0.f3,[],0)).bind fun t=>match t with | (.inl t)=>lD t.1 t.2.1 t.2.2.1 t.2.2.2.1 t.2.2.2.2.1 t.2.2.2.2.2.1 t.2.2.2.2.2.2.1 t.2.2.2.2.2.2.2.1 t.2.2.2.2.2.2.2.2.1 t.2.2.2.2.2.2.2.2.2 | (.inr t)=>some t)
def fT (c:(List S64)) (d:Int) (e:Int) (f:Bool) (g:Int) (h:Int) (i:Int) (j:Int) (k:Int) (b:(List (List UInt8))) (l:(List S47)):Option (((List S64)×Int×Int×Bool×Int×Int×Int×Int×Int×(List (List UInt8)))⊕((List S64)×Int×Int×Bool×Int×Int×Int×Int×Int×Int)) :=
  (wY l).bind fun m=>((jJ (⟨(⟨c,d,e,f,g⟩:S58),(⟨h,i⟩:S26),j,k⟩:S67) m).bind fun a=>(if (a.2.1 != 0)=true then (some (.inr (a.2.2.f0.f0,a.2.2.f0.f1,a.2.2.f0.f2,a.2.2.f0.f3,a.2.2.f0.f4,a.2.2.f1.f0,a.2.2.f1.f1,a.2.2.f2,a.2.2.f3,a.2.1))) else (chk (b.length+[a.1].length≤140737488355328 / 16) (some (.inl (a.2.2.f0.f0,a.2.2.f0.f1,a.2.2.f0.f2,a.2.2.f0.f3,a.2.2.f0.f4,a.2.2.f1.f0,a.2.2.f1.f1,a.2.2.f2,a.2.2.f3,b++[a.1]))))))
def mN (b:(List (List UInt8))) (c:(List S64)) (d:Int) (e:Int) (f:Bool) (g:Int) (h:Int) (i:Int) (j:Int) (k:Int) (l:(List (List UInt8))) (m:Int):Option ((List S47)×Int×Int×Int×S67) :=
  if ((b.length:Int)==0)=true then (some ([],0,0,0,(⟨(⟨c,d,e,f,g⟩:S58),(⟨h,i⟩:S26),j,k⟩:S67))) else ((at_ l 0).bind fun n=>((jI (⟨(⟨c,d,e,f,g⟩:S58),(⟨h,i⟩:S26),j,k⟩:S67) n).bind fun a=>(some (a.1,(b.length:Int),m,a.2.1,a.2.2))))
def lC (a:(List (List UInt8))) (b:(List S64)) (c:Int) (d:Int) (e:Bool) (f:Int) (g:Int) (h:Int) (i:Int) (j:Int) (k:(List (List UInt8))) (l:Int):Option ((List S47)×Int×Int×Int×S67) :=
  mN a b c d e f g h i j k l
def fB (c:(List S64)) (d:Int) (e:Int) (f:Bool) (g:Int) (h:Int) (i:Int) (j:Int) (k:Int) (b:(List (List UInt8))) (l:(List (List UInt8))):Option (((List S64)×Int×Int×Bool×Int×Int×Int×Int×Int×(List (List UInt8)))⊕((List S64)×Int×Int×Bool×Int×Int×Int×Int×Int×Int)) :=
  (mW (⟨(⟨c,d,e,f,g⟩:S58),(⟨h,i⟩:S26),j,k⟩:S67) l).bind fun a=>(if (a.2.1 != 0)=true then (some (.inr (a.2.2.f0.f0,a.2.2.f0.f1,a.2.2.f0.f2,a.2.2.f0.f3,a.2.2.f0.f4,a.2.2.f1.f0,a.2.2.f1.f1,a.2.2.f2,a.2.2.f3,a.2.1))) else (chk (b.length+[a.1].length≤140737488355328 / 16) (some (.inl (a.2.2.f0.f0,a.2.2.f0.f1,a.2.2.f0.f2,a.2.2.f0.f3,a.2.2.f0.f4,a.2.2.f1.f0,a.2.2.f1.f1,a.2.2.f2,a.2.2.f3,b++[a.1])))))
def jC (a:Int) (b:(List S64)) (c:Int) (d:Int) (e:Bool) (f:Int) (g:Int) (h:Int) (i:Int) (j:Int) (k:(List (List UInt8))):Option (((List S64)×Int×Int×Bool×Int×Int×Int×Int×Int×(List (List UInt8))×Int)⊕(((List S64)×Int×Int×Bool×Int×Int×Int×Int×Int×(List (List UInt8))×Int)⊕((List S47)×Int×Int×Int×S67))) :=
  ltt (IntKind.i64.wrap (a+1)) fun l=>(some (.inl (b,c,d,e,f,g,h,i,j,k,l)))
def jE (a:(List S64)) (b:Int) (c:Int) (d:Bool) (e:Int) (f:Int) (g:Int) (h:Int) (i:Int) (j:Int):Option (((List S64)×Int×Int×Bool×Int×Int×Int×Int×Int×(List (List UInt8))×Int)⊕(((List S64)×Int×Int×Bool×Int×Int×Int×Int×Int×(List (List UInt8))×Int)⊕((List S47)×Int×Int×Int×S67))) :=
  some (.inr (.inr ([],0,0,j,(⟨(⟨a,b,c,d,e⟩:S58),(⟨f,g⟩:S26),h,i⟩:S67))))
def cL (c:(List S64)) (d:Int) (e:Int) (f:Bool) (g:Int) (h:Int) (a:Int) (i:Int) (j:Int) (b:(List (List UInt8))) (k:Int):Option (((List S64)×Int×Int×Bool×Int×Int×Int×Int×Int×(List (List UInt8))×Int)⊕(((List S64)×Int×Int×Bool×Int×Int×Int×Int×Int×(List (List UInt8))×Int)⊕((List S47)×Int×Int×Int×S67))) :=
  if (decide (1<(b.length:Int)))=true then (chk (1≤a) ((chk (b.length≤4611686018427387904∧1≤a∧a≤1073741824) (oR (fun s l=>fB s.1 s.2.1 s.2.2.1 s.2.2.2.1 s.2.2.2.2.1 s.2.2.2.2.2.1 s.2.2.2.2.2.2.1 s.2.2.2.2.2.2.2.1 s.2.2.2.2.2.2.2.2.1 s.2.2.2.2.2.2.2.2.2 l) (pcs a.toNat b) (c,d,e,f,g,h,a,i,j,[]))).bind fun t=>match t with | .inl t=>jC k t.1 t.2.1 t.2.2.1 t.2.2.2.1 t.2.2.2.2.1 t.2.2.2.2.2.1 t.2.2.2.2.2.2.1 t.2.2.2.2.2.2.2.1 t.2.2.2.2.2.2.2.2.1 t.2.2.2.2.2.2.2.2.2 | .inr t=>jE t.1 t.2.1 t.2.2.1 t.2.2.2.1 t.2.2.2.2.1 t.2.2.2.2.2.1 t.2.2.2.2.2.2.1 t.2.2.2.2.2.2.2.1 t.2.2.2.2.2.2.2.2.1 t.2.2.2.2.2.2.2.2.2)) else (some (.inr (.inl (c,d,e,f,g,h,a,i,j,b,k))))
def lS (b:(List S64)) (c:Int) (d:Int) (e:Bool) (f:Int) (g:Int) (h:Int) (i:Int) (j:Int) (a:(List (List UInt8))):Option ((List S47)×Int×Int×Int×S67) :=
  (loop (fun s=>cL s.1 s.2.1 s.2.2.1 s.2.2.2.1 s.2.2.2.2.1 s.2.2.2.2.2.1 s.2.2.2.2.2.2.1 s.2.2.2.2.2.2.2.1 s.2.2.2.2.2.2.2.2.1 s.2.2.2.2.2.2.2.2.2.1 s.2.2.2.2.2.2.2.2.2.2) (b,c,d,e,f,g,h,i,j,a,0)).bind fun t=>match t with | (.inl t)=>lC a t.1 t.2.1 t.2.2.1 t.2.2.2.1 t.2.2.2.2.1 t.2.2.2.2.2.1 t.2.2.2.2.2.2.1 t.2.2.2.2.2.2.2.1 t.2.2.2.2.2.2.2.2.1 t.2.2.2.2.2.2.2.2.2.1 t.2.2.2.2.2.2.2.2.2.2 | (.inr t)=>some t
def lO (a:(List S64)) (b:Int) (c:Int) (d:Bool) (e:Int) (f:Int) (g:Int) (h:Int) (i:Int) (j:Int):Option ((List S47)×Int×Int×Int×S67) :=
  some ([],0,0,j,(⟨(⟨a,b,c,d,e⟩:S58),(⟨f,g⟩:S26),h,i⟩:S67))
def nD (a0:S67) (a1:(List S47)):Option ((List S47)×Int×Int×Int×S67) :=
  (nX (some a0.f0)).bind fun b=>((b.2).bind fun a=>(if (b.1 != 0)=true then (some ([],0,0,b.1,(⟨a,a0.f1,a0.f2,a0.f3⟩:S67))) else (chk (1≤a0.f1.f0) ((chk (a1.length≤4611686018427387904∧1≤a0.f1.f0∧a0.f1.f0≤1073741824) (oR (fun s l=>fT s.1 s.2.1 s.2.2.1 s.2.2.2.1 s.2.2.2.2.1 s.2.2.2.2.2.1 s.2.2.2.2.2.2.1 s.2.2.2.2.2.2.2.1 s.2.2.2.2.2.2.2.2.1 s.2.2.2.2.2.2.2.2.2 l) (pcs a0.f1.f0.toNat a1) (a.f0,a.f1,a.f2,a.f3,a.f4,a0.f1.f0,a0.f1.f1,a0.f2,a0.f3,[]))).bind fun t=>match t with | .inl t=>lS t.1 t.2.1 t.2.2.1 t.2.2.2.1 t.2.2.2.2.1 t.2.2.2.2.2.1 t.2.2.2.2.2.2.1 t.2.2.2.2.2.2.2.1 t.2.2.2.2.2.2.2.2.1 t.2.2.2.2.2.2.2.2.2 | .inr t=>lO t.1 t.2.1 t.2.2.1 t.2.2.2.1 t.2.2.2.2.1 t.2.2.2.2.2.1 t.2.2.2.2.2.2.1 t.2.2.2.2.2.2.2.1 t.2.2.2.2.2.2.2.2.1 t.2.2.2.2.2.2.2.2.2))))
def sT (a:((List S47)×Int×Int×Int×S67)) (b:(List S64)) (c:Int) (d:Int) (e:Bool) (f:Int):Option ((List S47)×Int×Int×Int×(Option S58)) :=
  some ([],0,0,a.2.2.2.1,some (⟨b,c,d,e,f⟩:S58))
def sD (a1:(List S47)) (a2:Int) (a3:S26) (c:S58):Option ((List S47)×Int×Int×Int×(Option S58)) :=
  (nD (⟨c,a3,a2,0⟩:S67) a1).bind fun a=>(if (a.2.2.2.1 != 0)=true then (if (a.2.2.2.1 != 9)=true then ((nX (some a.2.2.2.2.f0)).bind fun d=>((d.2).bind fun b=>(sT a b.f0 b.f1 b.f2 b.f3 b.f4))) else (sT a a.2.2.2.2.f0.f0 a.2.2.2.2.f0.f1 a.2.2.2.2.f0.f2 a.2.2.2.2.f0.f3 a.2.2.2.2.f0.f4)) else (some (a.1,a.2.1,a.2.2.1,0,some a.2.2.2.2.f0)))
def pZ (a1:(List S47)) (a2:Int) (a3:S26) (a:S58):Option ((List S47)×Int×Int×Int×(Option S58)) :=
  sD a1 a2 a3 a
def iA (a1:(List S47)) (a2:Int) (b:S58) (a:Int):Option ((Int)⊕((Unit)⊕((List S47)×Int×Int×Int×(Option S58)))) :=
  if (decide (a<(a1.length:Int)))=true then ((at_ a1 a).bind fun c=>((uA c a2).bind fun d=>(if (!d)=true then (some (.inr (.inr ([],0,0,3,some b)))) else (ltt (IntKind.i64.wrap (a+1)) fun e=>(some (.inl (e))))))) else (some (.inr (.inl ())))
def kW (a1:(List S47)) (a2:Int) (a3:S26) (a:S58) (b:Bool):Option ((List S47)×Int×Int×Int×(Option S58)) :=
  if b=true then (some ([],0,0,1,some a)) else ((loop (fun s=>iA a1 a2 a s) (0)).bind fun t=>match t with | (.inl t)=>pZ a1 a2 a3 a | (.inr t)=>some t)
def nM (a0:(Option S58)) (a1:(List S47)) (a2:Int) (a3:S26):Option ((List S47)×Int×Int×Int×(Option S58)) :=
  match a0 with | none=>(some ([],0,0,5,none)) | some a=>((nA a3).bind fun b=>(if (!b)=true then (kW a1 a2 a3 a true) else (if (decide (a2<1))=true then (kW a1 a2 a3 a true) else (kW a1 a2 a3 a (decide (8<a2))))))
end
end Go.Proofs.YtnefioccdkmegaaGreatDoor.M
