/- Texts of the claim, joined: what it uses of Mfb, Dfd, Mfd, Dfe, Mfe, Dso. -/
import Derived.Test.YtnefioccdkmegaaGreatDoorZh
namespace Go.Proofs.YtnefioccdkmegaaGreatDoor.M
open Go Go.RowKit Go.Proofs.YtnefioccdkmegaaGreatDoor.E
set_option linter.unusedVariables false
set_option maxRecDepth 100000
set_option maxHeartbeats 4000000
set_option linter.unusedSimpArgs false
section
variable {r:World} {L:List HP} {w:World} {Z:Nat→Prop} {wz:World}
theorem aIg {a0 y} (G:tO a0=some y) (X:SH r (L) w) :
  Ret Tryz.prog 35 #[str a0] w fun v w'=>v=.bool y∧SH r (L) w':=by
 refine enter Tryz.func35 rfl Tryz.ntmps35 [(0,_)] rfl (by simp) ?_
 intro U J Qf hQ hQn
 unfold tO at G
 refine nz 1 J rfl fun U J=>wp_seq_k fun d0 a8=>ws fun d1 a9=>xk 1 J rfl fun U J=>x_v J (aBp uu9 rfl (J.ev rfl)) rfl fun U J=>x_m J rfl fun U J=>wn (a9 _ _ ?_)
 refine aA fun a2 b3=>?_
 have hb1:qY a0=some y→∀U w,FR 39 [] U [(0,str a0)]→SH r (L) w→a2 U w:=by
  intro G U w J X
  unfold qY at G
  refine b3 _ _ (a8 _ _ ?_)
  refine ws fun d2 a3=>xk 1 J rfl fun U J=>x_v J (aJy rfl (J.ev rfl) (J.ev rfl)) rfl fun U J=>x_m J rfl fun U J=>bcG G (fun C G=>?_) fun C G=>?_
  ·refine xg 1 C J rfl rfl fun U J=>aO C J ?_ rfl
   refine x_v J (aBp uu9 rfl (J.ev rfl)) rfl fun U J=>ng 3 C J rfl rfl fun U J=>?_
   cases G
   refine a3 _ _ (wp_ret ?_)
   refine hQ _ _ (lv Tryz.results35 J rfl ?_)
   exact⟨rfl,X⟩
  refine ng 5 C J rfl rfl fun U J=>?_
  cases G
  refine a3 _ _ (wp_ret ?_)
  refine hQ _ _ (lv Tryz.results35 J rfl ?_)
  exact⟨rfl,X⟩
 obtain⟨b4,b5,G⟩:=bnd G
 have b6:=G
 have b7:(.inl ())=b4→∀U w,FR 39 [] U [(0,str a0)]→SH r (L) w→a2 U w:=by
  intro ht U w J X
  subst ht
  replace G:uT a0=some y:=G
  unfold uT at G
  exact hb1 G U w (J.sub _ rfl) X
 refine aD b5 (fun s U w=>FR 39 [] U [(0,str a0),(6,.int .i64 (a0.length:Int)),(7,.int .i64 s)]∧SH r (L) w) ⟨J.sub _ rfl,X⟩ ?_
 intro d3 b8 a4 G b9 a5 U w hLab
 obtain⟨Y,rfl⟩:∃ q,q=b8:=⟨_,rfl⟩
 replace G:fN a0 Y=some a4:=G
 unfold fN at G
 try dsimp only at hLab
 obtain⟨J,X⟩:=hLab
 refine nz 1 J rfl fun U J=>wp_seq_k fun d4 c0=>bB J G rfl (fun c3 G=>?_) fun c3 G=>?_
 ·refine wp_skip (c0 _ _ ?_)
  refine wp_seq_k fun d5 c4=>aA fun d6 c5=>nz 2 J rfl fun U J=>ws fun d7 c6=>xk 2 J rfl fun U J=>?_
  obtain⟨a6,a7,G⟩:=bnd G
  refine x_v J (aJq uu9 rfl (J.ev rfl) (J.ev rfl) (dQ a7).1 (dQ a7).2.2) rfl fun U J=>x_m J rfl fun U J=>wn (c6 _ _ ?_)
  refine wp_seq_k fun c7 c8=>?_
  have hj1:∀a1,gT Y a1=some a4→∀U w,FR 39 [] U [(0,str a0),(6,.int .i64 (a0.length:Int)),(7,.int .i64 Y),(30,.bool a1)]→SH r (L) w→c7 U w:=by
   intro a1 G U w J X
   unfold gT at G
   refine c8 _ _ (bB J G rfl (fun c9 G=>?_) fun c9 G=>?_)
   ·refine nz 1 J rfl fun U J=>?_
    cases G
    refine wp_ret ?_
    have ht:=a5 _ rfl
    subst ht
    replace G:=b6
    replace G:some false=some y:=G
    cases G
    refine hQ _ _ (lv Tryz.results35 J rfl ?_)
    exact⟨rfl,X⟩
   refine wp_skip (c5 _ _ ?_)
   refine c4 _ _ (aC ?_)
   refine x_l G J rfl fun d8 _ U J G=>x_m J rfl fun U J=>wpList_nil ?_
   cases G
   exact⟨_,b9 _ rfl,J.sub _ rfl,X⟩
  refine aC (xk 3 J rfl fun U J=>?_)
  refine bcG G (fun h G=>?_) fun h G=>?_
  ·refine xg 3 h J rfl rfl fun U J=>bcG G (fun H G=>?_) fun H G=>?_
   ·refine xg 2 H J rfl rfl fun U J=>aO h J ?_ rfl
    refine xg 1 H J rfl rfl fun U J=>xg 2 h J rfl rfl fun U J=>aO rfl J ?_ rfl
    refine x_m J rfl fun U J=>aO rfl J ?_ rfl
    refine xk 1 J rfl fun U J=>aO rfl J ?_ rfl
    refine x_m J rfl fun U J=>bcG G (fun I G=>?_) fun I G=>?_
    ·refine xg 2 I J rfl rfl fun U J=>aO rfl J ?_ rfl
     refine xg 1 I J rfl rfl fun U J=>oA rfl J (fun U J=>?_) rfl
     exact wpList_nil (hj1 true G U w (J.sub _ rfl) X)
    refine xg 2 I J rfl rfl fun U J=>aO rfl J ?_ rfl
    refine xg 1 I J rfl rfl fun U J=>oA rfl J (fun U J=>?_) rfl
    exact wpList_nil (hj1 (decide (122<(a6.toNat:Int))) G U w (J.sub _ rfl) X)
   refine xg 2 H J rfl rfl fun U J=>aO h J ?_ rfl
   refine xg 1 H J rfl rfl fun U J=>xg 2 h J rfl rfl fun U J=>bcG G (fun z G=>?_) fun z G=>?_
   ·refine xg 3 z J rfl rfl fun U J=>bcG G (fun S G=>?_) fun S G=>?_
    ·refine xg 2 S J rfl rfl fun U J=>aO z J ?_ rfl
     exact xg 1 S J rfl rfl fun U J=>ng 1 z J rfl rfl fun U J=>hj1 true G U w (J.sub _ rfl) X
    refine xg 2 S J rfl rfl fun U J=>aO z J ?_ rfl
    exact xg 1 S J rfl rfl fun U J=>ng 1 z J rfl rfl fun U J=>hj1 (decide (122<(a6.toNat:Int))) G U w (J.sub _ rfl) X
   exact ng 7 z J rfl rfl fun U J=>hj1 false G U w (J.sub _ rfl) X
  refine xg 8 h J rfl rfl fun U J=>xO 3 rfl J rfl fun U J=>xk 2 J rfl fun U J=>xO 1 rfl J rfl fun U J=>cG rfl J (fun U J=>?_) rfl
  exact wpList_nil (hj1 false G U w (J.sub _ rfl) X)
 cases G
 exact wp_exit (b7 (a5 _ rfl) U w (J.sub _ rfl) X)
theorem uS {a0 a1 A0 n0 c0 y} (G:iT a0 a1=some y) (X:SH r (L) w) :
  Ret Tryz.prog 37 #[.agg #[str a0.f0,.slice A0 n0 c0,.int .i64 a0.f2],str a1] w fun v w'=>v=.int .i64 y∧SH r (L) w':=by
 refine enter Tryz.func37 rfl Tryz.ntmps37 [(0,_),(1,_)] rfl (by simp) ?_
 intro U J Qf hQ hQn
 unfold iT at G
 refine ws fun a2 h=>nY J X (fun a3 U w X J=>?_) rfl
 refine x_m J rfl fun U J=>wn (h _ _ ?_)
 refine wp_seq_k fun a4 z=>aA fun a5 C=>ws fun a6 H=>aL aLp J (fun U J=>?_) rfl
 refine aI uu9 (X.cell 0 rfl 0 _ rfl) J (fun U J=>?_) rfl
 refine x_m J rfl fun U J=>x_v J (aG6 rfl (J.ev rfl) (J.ev rfl)) rfl fun U J=>x_m J rfl fun U J=>wn (H _ _ ?_)
 refine bB J G rfl (fun I G=>?_) fun I G=>?_
 ·refine nz 1 J rfl fun U J=>?_
  replace X:=X.drop 0
  cases G
  refine wp_ret (hQ _ _ ?_)
  exact lv Tryz.results37 J rfl ⟨rfl,X⟩
 refine ws fun a7 S=>aL aLp J (fun U J=>?_) rfl
 refine aI uu9 (X.cell 0 rfl 0 _ rfl) J (fun U J=>?_) rfl
 refine x_m J rfl fun U J=>x_v J (aY3 rfl (J.ev rfl) (J.ev rfl)) rfl fun U J=>x_m J rfl fun U J=>wn (S _ _ ?_)
 refine bB J G rfl (fun Y G=>?_) fun Y G=>?_
 ·refine nz 1 J rfl fun U J=>?_
  replace X:=X.drop 0
  cases G
  refine wp_ret (hQ _ _ ?_)
  exact lv Tryz.results37 J rfl ⟨rfl,X⟩
 refine wp_skip (C _ _ ?_)
 refine z _ _ (nz 1 J rfl fun U J=>?_)
 replace X:=X.drop 0
 cases G
 refine wp_ret (hQ _ _ ?_)
 exact lv Tryz.results37 J rfl ⟨rfl,X⟩
theorem jL {a0 a1 A0 n0 c0 y} (G:bA a0 a1=some y) (X:SH r (L) w) (ha0:RdL L (kL kp64 (fun x:S64=>x.f1)) A0 n0 c0 a0) :
  Ret Tryz.prog 36 #[.slice A0 n0 c0,str a1,.func (.func 37) #[] #[]] w fun v w'=>v=.tuple #[(.int .i64 y.1),(.bool y.2)]∧SH r (L) w':=by
 refine enter Tryz.func36 rfl Tryz.ntmps36 [(0,_),(1,_),(2,_)] rfl (by simp) ?_
 intro U J Qf hQ hQn
 unfold bA at G
 refine nz 2 J rfl fun U J=>ws fun e4 b3=>xk 1 J rfl fun U J=>aX jS (X.rdl 0 ha0 rfl).2.1 J (fun U J=>?_) rfl
 refine x_m J rfl fun U J=>wn (b3 _ _ ?_)
 refine nz 3 J rfl fun U J=>wp_seq_k fun e5 b4=>aA fun a2 b5=>?_
 have hb1:∀H,bN a0 a1 H=some y→∀U w,FR 49 [] U [(0,.slice A0 n0 c0),(1,str a1),(2,.func (.func 37) #[] #[]),(8,.int .i64 (a0.length:Int)),(9,.int .i64 H)]→SH r (L) w→a2 U w:=by
  intro H G U w J X
  unfold bN at G
  refine b5 _ _ (b4 _ _ ?_)
  refine ws fun e6 a3=>xk 5 J rfl fun U J=>bcG G (fun z G=>?_) fun z G=>?_
  ·refine xg 3 z J rfl rfl fun U J=>aO z J ?_ rfl
   obtain⟨a4,a5,G⟩:=bnd G
   refine fO jS qM (X.rdl 0 ha0 rfl) a5 J (fun U J=>?_) rfl
   refine aO z J ?_ rfl
   obtain⟨cs,hV,b6⟩:=el (X.rdl 0 ha0 rfl) a5
   obtain⟨⟨b7,b8,b9⟩,hV,e7⟩:=hV
   obtain rfl:=hV
   refine nF (cs:=[str a4.f0,.slice b7 b8 b9,.int .i64 a4.f2]) aUe qM (fun j u h=>by rw [fG]; exact b6 _ _ h) J (fun U J=>?_) rfl
   refine xg 1 z J rfl rfl fun U J=>aO z J ?_ rfl
   obtain⟨e8,c3,G⟩:=bnd G
   refine x_c aYi J rfl (uS c3 X :) fun v U w hR J=>?_
   obtain⟨rfl,X⟩:=hR
   refine ng 4 z J rfl rfl fun U J=>?_
   cases G
   refine a3 _ _ (wp_ret ?_)
   refine hQ _ _ (lv2 Tryz.results36 J rfl rfl ?_)
   exact⟨rfl,X⟩
  refine ng 11 z J rfl rfl fun U J=>?_
  cases G
  refine a3 _ _ (wp_ret ?_)
  refine hQ _ _ (lv2 Tryz.results36 J rfl rfl ?_)
  exact⟨rfl,X⟩
 obtain⟨c4,c5,G⟩:=bnd G
 have c6:∀C,(C)=c4→∀U w,FR 49 [] U [(0,.slice A0 n0 c0),(1,str a1),(2,.func (.func 37) #[] #[]),(8,.int .i64 (a0.length:Int)),(9,.int .i64 C)]→SH r (L) w→a2 U w:=by
  intro C ht U w J X
  subst ht
  replace G:bK a0 a1 C=some y:=G
  unfold bK at G
  exact hb1 C G U w (J.sub _ rfl) X
 refine aD c5 (fun s U w=>FR 49 [] U [(0,.slice A0 n0 c0),(1,str a1),(2,.func (.func 37) #[] #[]),(8,.int .i64 (a0.length:Int)),(9,.int .i64 s.1),(10,.int .i64 s.2)]∧SH r (L) w) ⟨J.sub _ rfl,X⟩ ?_
 intro e9 c7 a6 G c8 c9 U w hLab
 obtain⟨I,a7⟩:=c7
 replace G:aF a0 a1 I a7=some a6:=G
 unfold aF at G
 try dsimp only at hLab
 obtain⟨J,X⟩:=hLab
 refine wp_seq_k fun f3 d0=>nz 3 J rfl fun U J=>bB J G rfl (fun d1 G=>?_) fun d1 G=>?_
 ·refine wp_skip (d0 _ _ ?_)
  refine aA fun d2 d3=>?_
  have hb2:∀S Y,aV S Y=some a6→∀U w,FR 49 [] U [(0,.slice A0 n0 c0),(1,str a1),(2,.func (.func 37) #[] #[]),(8,.int .i64 (a0.length:Int)),(9,.int .i64 S),(10,.int .i64 Y)]→SH r (L) w→d2 U w:=by
   intro S Y G U w J X
   unfold aV at G
   cases G
   exact d3 _ _ ⟨_,c8 _ rfl,J.sub _ rfl,X⟩
  refine ws fun f4 d4=>xk 2 J rfl fun U J=>x_l G J rfl fun f5 _ U J G=>fU G J (aS uu3 aEa rfl (J.ev rfl)) rfl fun f6 _ U J G=>fU G J (qW rfl (J.ev rfl) (J.ev rfl) (by decide)) rfl fun f7 _ U J G=>fU G J (aS aEa uu3 rfl (J.ev rfl)) rfl fun d5 _ U J G=>x_m J rfl fun U J=>wn (d4 _ _ ?_)
  refine ws fun f8 d6=>xk 3 J rfl fun U J=>?_
  obtain⟨a8,a9,G⟩:=bnd G
  refine fO jS qM (X.rdl 0 ha0 rfl) a9 J (fun U J=>?_) rfl
  obtain⟨cs,hV,d7⟩:=el (X.rdl 0 ha0 rfl) a9
  obtain⟨⟨d8,d9,e0⟩,hV,f9⟩:=hV
  obtain rfl:=hV
  refine nF (cs:=[str a8.f0,.slice d8 d9 e0,.int .i64 a8.f2]) aUe qM (fun j u h=>by rw [fG]; exact d7 _ _ h) J (fun U J=>?_) rfl
  refine x_m J rfl fun U J=>?_
  obtain⟨g0,e1,G⟩:=bnd G
  refine x_c aYi J rfl (uS e1 X :) fun v U w hR J=>?_
  obtain⟨rfl,X⟩:=hR
  refine nk 1 J rfl fun U J=>d6 _ _ (bB J G rfl (fun e2 G=>?_) fun e2 G=>?_)
  ·refine aC (x_m J rfl fun U J=>?_)
   exact x_l G J rfl fun e3 _ U J G=>x_m J rfl fun U J=>wpList_nil (hb2 e3 a7 G U w (J.sub _ rfl) X)
  refine aC (nk 2 J rfl fun U J=>?_)
  exact hb2 I d5 G U w (J.sub _ rfl) X
 cases G
 exact wp_exit (c6 I (c9 _ rfl) U w (J.sub _ rfl) X)
theorem rL {a0 a1 g0 A0_0 n0_0 c0_0 y} (G:gP a0 a1=some y) (X:SH r (blk g0 58 [.slice A0_0 n0_0 c0_0,.int .i64 a0.f1,.int .i64 a0.f2,.bool a0.f3,.int .i64 a0.f4]::own2 kp64 (kI .u8) 5 (fun x:S64=>x.f1) 64 A0_0 n0_0 c0_0 a0.f0::L) w) :
  Ret Tryz.prog 25 #[.pointer (some ⟨g0,0,none⟩),str a1] w fun v w'=>v=.tuple #[(.int .i64 y.1),(.bool y.2)]∧SH r (blk g0 58 [.slice A0_0 n0_0 c0_0,.int .i64 a0.f1,.int .i64 a0.f2,.bool a0.f3,.int .i64 a0.f4]::own2 kp64 (kI .u8) 5 (fun x:S64=>x.f1) 64 A0_0 n0_0 c0_0 a0.f0::L) w':=by
 refine enter Tryz.func25 rfl Tryz.ntmps25 [(0,_),(1,_)] rfl (by simp) ?_
 intro U J Qf hQ hQn
 unfold gP at G
 refine nz 2 J rfl fun U J=>ws fun C h=>xk 2 J rfl fun U J=>aL uV J (fun U J=>?_) rfl
 refine aI jS (X.cell 0 rfl 0 _ rfl) J (fun U J=>?_) rfl
 refine x_m J rfl fun U J=>?_
 obtain⟨H,z,G⟩:=bnd G
 refine x_c bBy J rfl (jL z X (RdL.own2 1 rfl (X.dropN 0)) :) fun v U w hR J=>?_
 obtain⟨rfl,X⟩:=hR
 refine nk 4 J rfl fun U J=>?_
 replace X:=X.pk 1 |>.pk 1
 cases G
 refine h _ _ (wp_ret ?_)
 refine hQ _ _ (lv2 Tryz.results25 J rfl rfl ?_)
 exact⟨rfl,X⟩
theorem kW {a0 a1 p0 y} (G:eY a0 a1=some y) (X:SH r (sB (obj58) p0 a0::L) w) :
  Ret Tryz.prog 24 #[.pointer p0,str a1] w fun v w'=>v=.int .i64 y∧SH r (sB (obj58) p0 a0::L) w':=by
 refine enter Tryz.func24 rfl Tryz.ntmps24 [(0,_),(1,_)] rfl (by simp) ?_
 intro U J Qf hQ hQn
 unfold eY at G
 cases a0 with
 | none =>
  have hU:=SH.unoptN X
  clear X
  obtain⟨rfl,X⟩:=hU
  refine nz 1 J rfl fun U J=>wp_seq_k fun a6 a7=>aA fun a8 a9=>ws fun b3 z=>xk 1 J rfl fun U J=>x_v (v:=.bool true) J (uM (p:=none) yT rfl (J.ev rfl) (J.ev rfl)) rfl fun U J=>x_m J rfl fun U J=>wn (z _ _ ?_)
  refine c_t (b:=true) rfl J ?_ rfl
  refine nz 1 J rfl fun U J=>?_
  replace X:=SH.optN (obj58) X
  cases G
  refine wp_ret (hQ _ _ ?_)
  exact lv Tryz.results24 J rfl ⟨rfl,X⟩
 | some h =>
  have hU:=SH.unoptS X
  clear X
  obtain⟨C,rfl,X⟩:=hU
  obtain⟨b4,b5,b6,X⟩:=bG X
  refine nz 1 J rfl fun U J=>wp_seq_k fun b7 H=>aA fun b8 I=>ws fun b9 S=>xk 1 J rfl fun U J=>x_v (v:=.bool false) J (uM (p:=some ⟨C,0,none⟩) yT rfl (J.ev rfl) (J.ev rfl)) rfl fun U J=>x_m J rfl fun U J=>wn (S _ _ ?_)
  refine c_f (b:=false) rfl J ?_ rfl
  refine ws fun c0 Y=>xk 1 J rfl fun U J=>?_
  obtain⟨c3,a2,G⟩:=bnd G
  refine x_c bCg J rfl (aIg a2 X :) fun v U w hR J=>?_
  obtain⟨rfl,X⟩:=hR
  refine nk 2 J rfl fun U J=>Y _ _ (bB J G rfl (fun a3 G=>?_) fun a3 G=>?_)
  ·refine nz 1 J rfl fun U J=>?_
   replace X:=SH.optS (aM (x:=h) (X.pk 1 |>.pk 1))
   cases G
   refine wp_ret (hQ _ _ ?_)
   exact lv Tryz.results24 J rfl ⟨rfl,X⟩
  refine ws fun c4 a4=>xk 2 J rfl fun U J=>aL aLh J (fun U J=>?_) rfl
  refine aI uu4 (X.cell 0 rfl 3 _ rfl) J (fun U J=>?_) rfl
  refine x_m J rfl fun U J=>wn (a4 _ _ ?_)
  refine bB J G rfl (fun a5 G=>?_) fun a5 G=>?_
  ·refine nz 1 J rfl fun U J=>?_
   replace X:=SH.optS (aM (x:=h) (X.pk 1 |>.pk 1))
   cases G
   refine wp_ret (hQ _ _ ?_)
   exact lv Tryz.results24 J rfl ⟨rfl,X⟩
  refine wp_skip (I _ _ ?_)
  refine H _ _ (nz 1 J rfl fun U J=>?_)
  replace X:=SH.optS (aM (x:=h) (X.pk 1 |>.pk 1))
  cases G
  refine wp_ret (hQ _ _ ?_)
  exact lv Tryz.results24 J rfl ⟨rfl,X⟩
theorem vC {a0 g0 y} (G:jK a0=some y) (X:SH r (obj58 g0 a0::L) w) :
  Ret Tryz.prog 26 #[.pointer (some ⟨g0,0,none⟩)] w fun v w'=>v=.bool y.1∧SH r (obj58 g0 y.2::L) w':=by
 refine enter Tryz.func26 rfl Tryz.ntmps26 [(0,_)] rfl (by simp) ?_
 intro U J Qf hQ hQn
 unfold jK at G
 obtain⟨H,I,S,X⟩:=bG X
 refine nz 1 J rfl fun U J=>ws fun a8 a1=>xk 2 J rfl fun U J=>aL aQh J (fun U J=>?_) rfl
 refine aI uu3 (X.cell 0 rfl 4 _ rfl) J (fun U J=>?_) rfl
 refine x_l G J rfl fun C _ U J G=>xk 1 J rfl fun U J=>aL aQh J (fun U J=>?_) rfl
 refine dH 0 sz3 J X rfl (fun  U w X J=>?_) rfl
 refine wn (a1 _ _ ?_)
 refine wp_seq_k fun a2 a3=>?_
 have hj1:∀h z,lW a0 C h z=some y→∀U w,FR 35 [] U [(0,(pP g0))]→SH r (blk g0 58 [.slice H I S,.int .i64 a0.f1,.int .i64 h,.bool z,.int .i64 C]::own2 kp64 (kI .u8) 5 (fun x:S64=>x.f1) 64 H I S a0.f0::L) w→a2 U w:=by
  intro h z G U w J X
  unfold lW at G
  refine a3 _ _ (ws fun a9 a4=>?_)
  refine xk 2 J rfl fun U J=>aL aLh J (fun U J=>?_) rfl
  refine aI uu4 (X.cell 0 rfl 3 _ rfl) J (fun U J=>?_) rfl
  refine nk 2 J rfl fun U J=>?_
  replace X:=X.pk 1 |>.pk 1
  replace X:=aM (x:=(⟨a0.f0,a0.f1,h,z,C⟩:S58)) X
  cases G
  refine a4 _ _ (wp_ret ?_)
  refine hQ _ _ (lv Tryz.results26 J rfl ?_)
  exact⟨rfl,X⟩
 refine ws fun b3 a5=>xk 2 J rfl fun U J=>aL aH9 J (fun U J=>?_) rfl
 refine aI uu3 (X.cell 0 rfl 2 _ rfl) J (fun U J=>?_) rfl
 refine nk 1 J rfl fun U J=>a5 _ _ (bB J G rfl (fun a6 G=>?_) fun a6 G=>?_)
 ·refine ws fun b4 a7=>xk 2 J rfl fun U J=>aL aH9 J (fun U J=>?_) rfl
  refine aI uu3 (X.cell 0 rfl 2 _ rfl) J (fun U J=>?_) rfl
  refine x_l G J rfl fun Y _ U J G=>xk 1 J rfl fun U J=>aL aH9 J (fun U J=>?_) rfl
  refine dH 0 sz3 J X rfl (fun  U w X J=>?_) rfl
  refine wn (a7 _ _ ?_)
  refine aC (xk 3 J rfl fun U J=>?_)
  refine aL aH9 J (fun U J=>?_) rfl
  refine aI uu3 (X.cell 0 rfl 2 _ rfl) J (fun U J=>?_) rfl
  refine xk 2 J rfl fun U J=>aL aLh J (fun U J=>?_) rfl
  refine dH 0 sz4 J X rfl (fun  U w X J=>?_) rfl
  exact wpList_nil (hj1 Y (Y==0) G U w (J.sub _ rfl) X)
 exact wp_skip (hj1 a0.f2 a0.f3 G U w (J.sub _ rfl) X)
theorem aBh {a0 p0 y} (G:nE a0=some y) (X:SH r (sB (obj58) p0 a0::L) w) :
  Ret Tryz.prog 18 #[.pointer p0] w fun v w'=>v=.int .i64 y∧SH r (sB (obj58) p0 a0::L) w':=by
 refine enter Tryz.func18 rfl Tryz.ntmps18 [(0,_)] rfl (by simp) ?_
 intro U J Qf hQ hQn
 unfold nE at G
 cases a0 with
 | none =>
  have hU:=SH.unoptN X
  clear X
  obtain⟨rfl,X⟩:=hU
  refine nz 1 J rfl fun U J=>nz 1 J rfl fun U J=>wp_seq_k fun d5 a7=>ws fun d6 a8=>xk 1 J rfl fun U J=>x_v (v:=.bool false) J (aCm (p:=none) yT rfl (J.ev rfl) (J.ev rfl)) rfl fun U J=>wn (a8 _ _ ?_)
  refine c_f (b:=false) rfl J ?_ rfl
  refine wp_skip (a7 _ _ ?_)
  refine nz 2 J rfl fun U J=>?_
  replace X:=SH.optN (obj58) X
  cases G
  refine wp_ret (hQ _ _ ?_)
  exact lv Tryz.results18 J rfl ⟨rfl,X⟩
 | some z =>
  have hU:=SH.unoptS X
  clear X
  obtain⟨C,rfl,X⟩:=hU
  obtain⟨H,I,S,X⟩:=bG X
  refine nz 1 J rfl fun U J=>nz 1 J rfl fun U J=>wp_seq_k fun d7 a9=>ws fun d8 b3=>xk 1 J rfl fun U J=>x_v (v:=.bool true) J (aCm (p:=some ⟨C,0,none⟩) yT rfl (J.ev rfl) (J.ev rfl)) rfl fun U J=>wn (b3 _ _ ?_)
  refine c_t (b:=true) rfl J ?_ rfl
  refine ws fun d9 b4=>xk 2 J rfl fun U J=>aL uV J (fun U J=>?_) rfl
  refine aI jS (X.cell 0 rfl 0 _ rfl) J (fun U J=>?_) rfl
  refine aX jS (X.rd2L 1 rfl).2.1 J (fun U J=>?_) rfl
  refine x_m J rfl fun U J=>wn (b4 _ _ ?_)
  refine aA fun a3 b5=>?_
  have hb1:∀a1,qR a1=some y→∀U w,FR 24 [] U [(0,(pP C)),(3,.int .i64 a1)]→SH r (blk C 58 [.slice H I S,.int .i64 z.f1,.int .i64 z.f2,.bool z.f3,.int .i64 z.f4]::own2 kp64 (kI .u8) 5 (fun x:S64=>x.f1) 64 H I S z.f0::L) w→a3 U w:=by
   intro a1 G U w J X
   unfold qR at G
   refine b5 _ _ (a9 _ _ ?_)
   refine nz 2 J rfl fun U J=>?_
   replace X:=SH.optS (aM (x:=z) (X.pk 1 |>.pk 1))
   cases G
   refine wp_ret (hQ _ _ ?_)
   exact lv Tryz.results18 J rfl ⟨rfl,X⟩
  obtain⟨b6,b7,G⟩:=bnd G
  have b8:∀Y,(Y)=b6→∀U w,FR 24 [] U [(0,(pP C)),(3,.int .i64 Y)]→SH r (blk C 58 [.slice H I S,.int .i64 z.f1,.int .i64 z.f2,.bool z.f3,.int .i64 z.f4]::own2 kp64 (kI .u8) 5 (fun x:S64=>x.f1) 64 H I S z.f0::L) w→a3 U w:=by
   intro Y ht U w J X
   subst ht
   replace G:oK Y=some y:=G
   unfold oK at G
   exact hb1 Y G U w (J.sub _ rfl) X
  refine aD b7 (fun s U w=>FR 24 [] U [(0,(pP C)),(3,.int .i64 s.1),(11,.slice H I S),(12,.int .i64 (z.f0.length:Int)),(13,.int .i64 s.2)]∧SH r (blk C 58 [.slice H I S,.int .i64 z.f1,.int .i64 z.f2,.bool z.f3,.int .i64 z.f4]::own2 kp64 (kI .u8) 5 (fun x:S64=>x.f1) 64 H I S z.f0::L) w) ⟨J.sub _ rfl,X⟩ ?_
  intro e0 b9 c0 G c3 c4 U w hLab
  obtain⟨a4,c5⟩:=b9
  replace G:dK z a4 c5=some c0:=G
  unfold dK at G
  try dsimp only at hLab
  obtain⟨J,X⟩:=hLab
  refine nz 1 J rfl fun U J=>wp_seq_k fun e1 c6=>bB J G rfl (fun c7 G=>?_) fun c7 G=>?_
  ·refine wp_skip (c6 _ _ ?_)
   refine wp_seq_k fun e2 c8=>aA fun e3 c9=>ws fun e4 d0=>?_
   obtain⟨a2,a5,G⟩:=bnd G
   refine fO jS qM (X.rd2L 1 rfl) a5 J (fun U J=>?_) rfl
   obtain⟨cs,hV,d1⟩:=el (X.rd2L 1 rfl) a5
   obtain⟨⟨d2,a6,d3⟩,hV,d4⟩:=hV
   obtain rfl:=hV
   refine nF (cs:=[str a2.f0,.slice d2 a6 d3,.int .i64 a2.f2]) aUe qM (fun j u h=>by rw [fG]; exact d1 _ _ h) J (fun U J=>?_) rfl
   refine iC (cs:=[str [],.slice none 0 0,.int .i64 0]) aV8 J X (fun e5 U w X J=>?_) rfl
   refine dH 0 qM J X rfl (fun  U w X J=>?_) rfl
   refine wn (d0 _ _ ?_)
   refine aC (x_m J rfl fun U J=>?_)
   refine aL aIu J (fun U J=>?_) rfl
   refine aI fC (X.cell 0 rfl 1 _ rfl) J (fun U J=>?_) rfl
   refine aX fC (show a2.f1.length=a6 from d4) J (fun U J=>?_) rfl
   refine x_l G J rfl fun e6 _ U J G=>x_m J rfl fun U J=>wpList_nil (c9 _ _ ?_)
   refine c8 _ _ (aC ?_)
   refine x_l G J rfl fun e7 _ U J G=>x_m J rfl fun U J=>wpList_nil ?_
   replace X:=X.drop 0
   cases G
   exact⟨_,c3 _ rfl,J.sub _ rfl,X⟩
  cases G
  exact wp_exit (b8 a4 (c4 _ rfl) U w (J.sub _ rfl) X)
theorem aBr {a0 p0 y} (G:mU a0=some y) (X:SH r (sB (obj58) p0 a0::L) w) :
  Ret Tryz.prog 17 #[.pointer p0] w fun v w'=>∃ (B0:Option Addr) (m0:Nat) (d0:Nat),v=.slice B0 m0 d0∧SH r (own kS 9 B0 m0 d0 y::sB (obj58) p0 a0::L) w':=by
 refine enter Tryz.func17 rfl Tryz.ntmps17 [(0,_)] rfl (by simp) ?_
 intro U J Qf hQ hQn
 unfold mU at G
 cases a0 with
 | none =>
  have hU:=SH.unoptN X
  clear X
  obtain⟨rfl,X⟩:=hU
  refine nz 1 J rfl fun U J=>nz 1 J rfl fun U J=>wp_seq_k fun e8 b8=>ws fun e9 b9=>xk 1 J rfl fun U J=>x_v (v:=.bool false) J (aCm (p:=none) yT rfl (J.ev rfl) (J.ev rfl)) rfl fun U J=>wn (b9 _ _ ?_)
  refine c_f (b:=false) rfl J ?_ rfl
  refine wp_skip (b8 _ _ ?_)
  refine nz 2 J rfl fun U J=>?_
  replace X:=(SH.optN (obj58) (SH.nil_own (d:=kS) (e:=9) X)).pk 1
  cases G
  refine wp_ret (hQ _ _ ?_)
  exact lv Tryz.results17 J rfl ⟨none,0,0,rfl,X⟩
 | some z =>
  have hU:=SH.unoptS X
  clear X
  obtain⟨C,rfl,X⟩:=hU
  obtain⟨H,I,S,X⟩:=bG X
  refine nz 1 J rfl fun U J=>nz 1 J rfl fun U J=>wp_seq_k fun f5 c0=>ws fun f6 c3=>xk 1 J rfl fun U J=>x_v (v:=.bool true) J (aCm (p:=some ⟨C,0,none⟩) yT rfl (J.ev rfl) (J.ev rfl)) rfl fun U J=>wn (c3 _ _ ?_)
  refine c_t (b:=true) rfl J ?_ rfl
  refine ws fun f7 c4=>xk 2 J rfl fun U J=>aL uV J (fun U J=>?_) rfl
  refine aI jS (X.cell 0 rfl 0 _ rfl) J (fun U J=>?_) rfl
  refine aX jS (X.rd2L 1 rfl).2.1 J (fun U J=>?_) rfl
  refine x_m J rfl fun U J=>wn (c4 _ _ ?_)
  refine aA fun b5 c5=>?_
  have hb1:∀b4,qN b4=some y→∀a2 a3 a4 U w,FR 24 [] U [(0,(pP C)),(3,.slice a2 a3 a4)]→SH r (blk C 58 [.slice H I S,.int .i64 z.f1,.int .i64 z.f2,.bool z.f3,.int .i64 z.f4]::own2 kp64 (kI .u8) 5 (fun x:S64=>x.f1) 64 H I S z.f0::own kS 9 a2 a3 a4 b4::L) w→b5 U w:=by
   intro b4 G a2 a3 a4 U w J X
   unfold qN at G
   refine c5 _ _ (c0 _ _ ?_)
   refine nz 2 J rfl fun U J=>?_
   replace X:=(SH.optS (aM (x:=z) (X.pk 1 |>.pk 1))).pk 1
   cases G
   refine wp_ret (hQ _ _ ?_)
   exact lv Tryz.results17 J rfl ⟨a2,a3,a4,rfl,X⟩
  obtain⟨c6,c7,G⟩:=bnd G
  have c8:∀a1,(a1)=c6→∀a5 a6 a7 U w,FR 24 [] U [(0,(pP C)),(3,.slice a5 a6 a7)]→SH r (blk C 58 [.slice H I S,.int .i64 z.f1,.int .i64 z.f2,.bool z.f3,.int .i64 z.f4]::own2 kp64 (kI .u8) 5 (fun x:S64=>x.f1) 64 H I S z.f0::own kS 9 a5 a6 a7 a1::L) w→b5 U w:=by
   intro a1 ht a5 a6 a7 U w J X
   subst ht
   replace G:oL a1=some y:=G
   unfold oL at G
   exact hb1 a1 G a5 a6 a7 U w (J.sub _ rfl) X
  replace X:=(SH.nil_own (d:=kS) (e:=9) X).pk 2 |>.pk 2
  refine aD c7 (fun s U w=>∃a8 a9 b3,FR 24 [] U [(0,(pP C)),(3,.slice a8 a9 b3),(11,.slice H I S),(12,.int .i64 (z.f0.length:Int)),(13,.int .i64 s.2)]∧SH r (blk C 58 [.slice H I S,.int .i64 z.f1,.int .i64 z.f2,.bool z.f3,.int .i64 z.f4]::own2 kp64 (kI .u8) 5 (fun x:S64=>x.f1) 64 H I S z.f0::own kS 9 a8 a9 b3 s.1::L) w) ⟨none,0,0,J.sub _ rfl,X⟩ ?_
  intro f8 c9 d1 G d2 d3 U w hLab
  obtain⟨b6,d4⟩:=c9
  replace G:dI z b6 d4=some d1:=G
  unfold dI at G
  try dsimp only at hLab
  obtain⟨a8,a9,b3,J,X⟩:=hLab
  refine nz 1 J rfl fun U J=>wp_seq_k fun f9 d5=>bB J G rfl (fun d6 G=>?_) fun d6 G=>?_
  ·refine wp_skip (d5 _ _ ?_)
   refine wp_seq_k fun g0 d7=>aA fun g1 d8=>ws fun g2 d9=>?_
   obtain⟨Y,b7,G⟩:=bnd G
   refine fO jS qM (X.rd2L 1 rfl) b7 J (fun U J=>?_) rfl
   obtain⟨cs,hV,e0⟩:=el (X.rd2L 1 rfl) b7
   obtain⟨⟨e1,e2,e3⟩,hV,g3⟩:=hV
   obtain rfl:=hV
   refine nF (cs:=[str Y.f0,.slice e1 e2 e3,.int .i64 Y.f2]) aUe qM (fun j u h=>by rw [fG]; exact e0 _ _ h) J (fun U J=>?_) rfl
   refine iC (cs:=[str [],.slice none 0 0,.int .i64 0]) aV8 J X (fun g4 U w X J=>?_) rfl
   refine dH 0 qM J X rfl (fun  U w X J=>?_) rfl
   refine wn (d9 _ _ ?_)
   refine aC (x_m J rfl fun U J=>?_)
   refine aL aLp J (fun U J=>?_) rfl
   refine aI uu9 (X.cell 0 rfl 0 _ rfl) J (fun U J=>?_) rfl
   refine gV (d:=kS) (e:=9) (ps:=#[(0,str Y.f0)]) (cells:=[str Y.f0]) (xs:=[Y.f0]) (fun w=>by kernel_rfl) rfl ⟨[str Y.f0],_,rfl,rfl,rfl⟩ J X (fun g5 U w X J=>?_) rfl
   obtain⟨e4,G⟩:=aB G
   have hr:=X.rd 0 rfl
   refine gG 4 aKd lE J X hr.1 hr.2.1 e4 rfl (fun e5 e6 e7 U w X J=>?_) rfl
   refine x_m J rfl fun U J=>wpList_nil (d8 _ _ ?_)
   refine d7 _ _ (aC ?_)
   refine x_l G J rfl fun g6 _ U J G=>x_m J rfl fun U J=>wpList_nil ?_
   replace X:=X.drop 1 |>.drop 1 |>.pk 2 |>.pk 2
   cases G
   exact⟨_,d2 _ rfl,e5,e6,e7,J.sub _ rfl,X⟩
  cases G
  exact wp_exit (c8 b6 (d3 _ rfl) a8 a9 b3 U w (J.sub _ rfl) X)
theorem aD1 {a0 y} (G:wE a0=some y) (X:SH r (L) w) :
  Ret Tryz.prog 11 #[.int .i64 a0] w fun v w'=>∃ (p0:Option Addr),v=.tuple #[(.pointer p0),(.int .i64 y.2)]∧SH r (sB (obj58) p0 y.1::L) w':=by
 refine enter Tryz.func11 rfl Tryz.ntmps11 [(0,_)] rfl (by simp) ?_
 intro U J Qf hQ hQn
 unfold wE at G
 refine nz 2 J rfl fun U J=>wp_seq_k fun a2 C=>wp_seq_k fun H I=>?_
 have hj1:∀h,tA a0 h=some y→∀U w,FR 13 [] U [(0,.int .i64 a0),(9,.bool h)]→SH r (L) w→H U w:=by
  intro h G U w J X
  unfold tA at G
  refine I _ _ (bB J G rfl (fun S G=>?_) fun S G=>?_)
  ·refine nz 2 J rfl fun U J=>?_
   replace X:=SH.optN (obj58) X
   cases G
   refine wp_ret (hQ _ _ ?_)
   exact lv2 Tryz.results11 J rfl rfl ⟨none,rfl,X⟩
  refine wp_skip (C _ _ ?_)
  refine ws fun a3 Y=>xk 1 J rfl fun U J=>x_v (v:=.agg #[.slice none 0 0,.int .i64 a0,.int .i64 0,.bool false,.int .i64 0]) J (nU (ps:=#[(1,.int .i64 a0)]) rfl (qP J rfl) (fun w=>by kernel_rfl)) rfl fun U J=>nY J X (fun a1 U w X J=>?_) rfl
  refine nk 2 J rfl fun U J=>?_
  replace X:=aPs (dp:=kp64) (d:=(kI .u8)) (e':=5) (g:=(fun x:S64=>x.f1)) (e:=64) X
  replace X:=X.pk 1
  replace X:=SH.optS (aM (x:=(⟨[],a0,0,false,0⟩:S58)) X)
  cases G
  refine Y _ _ (wp_ret ?_)
  refine hQ _ _ (lv2 Tryz.results11 J rfl rfl ?_)
  exact⟨some ⟨a1,0,none⟩,rfl,X⟩
 refine aC (xk 3 J rfl fun U J=>?_)
 refine bcG G (fun z G=>?_) fun z G=>?_
 ·exact ng 3 z J rfl rfl fun U J=>hj1 true G U w (J.sub _ rfl) X
 exact ng 3 z J rfl rfl fun U J=>hj1 (decide (16777216<a0)) G U w (J.sub _ rfl) X
theorem zF {a0 a1 a2 p0 A2 n2 c2 y} (G:nX a0 a1 a2=some y) (X:SH r (sB (obj58) p0 a0::L) w) (ha2:RdL L (kI .u8) A2 n2 c2 a2) :
  Ret Tryz.prog 12 #[.pointer p0,str a1,.slice A2 n2 c2] w fun v w'=>v=.int .i64 y.1∧SH r (sB (obj58) p0 y.2::L) w':=by
 refine enter Tryz.func12 rfl Tryz.ntmps12 [(0,_),(1,_),(2,_)] rfl (by simp) ?_
 intro U J Qf hQ hQn
 unfold nX at G
 cases a0 with
 | none =>
  have hU:=SH.unoptN X
  clear X
  obtain⟨rfl,X⟩:=hU
  refine nz 1 J rfl fun U J=>wp_seq_k fun h0 d2=>ws fun h1 d3=>xk 2 J rfl fun U J=>?_
  replace X:=SH.optN (obj58) X
  obtain⟨h2,d4,G⟩:=bnd G
  refine x_c aRf J rfl (kW d4 X :) fun v U w hR J=>?_
  obtain⟨rfl,X⟩:=hR
  refine x_m J rfl fun U J=>wn (d3 _ _ ?_)
  refine nz 2 J rfl fun U J=>bB J G rfl (fun d5 G=>?_) fun d5 G=>?_
  ·refine nz 2 J rfl fun U J=>?_
   replace X:=(SH.optN (obj58) X).drop 1
   cases G
   refine wp_ret (hQ _ _ ?_)
   exact lv Tryz.results12 J rfl ⟨rfl,X⟩
  refine wp_skip (d2 _ _ ?_)
  refine ws fun h3 h4=>xk 2 J rfl fun U J=>?_
  cases G
 | some I =>
  have hU:=SH.unoptS X
  clear X
  obtain⟨C,rfl,X⟩:=hU
  obtain⟨h5,h6,h7,X⟩:=bG X
  refine nz 1 J rfl fun U J=>wp_seq_k fun h8 d6=>ws fun h9 d7=>xk 2 J rfl fun U J=>?_
  replace X:=SH.optS (aM (x:=I) (X.pk 1 |>.pk 1))
  obtain⟨i0,d8,G⟩:=bnd G
  refine x_c aRf J rfl (kW d8 X :) fun v U w hR J=>?_
  obtain⟨rfl,X⟩:=hR
  obtain⟨i1,i2,i3,X⟩:=bG (SH.unoptP X)
  refine x_m J rfl fun U J=>wn (d7 _ _ ?_)
  refine nz 2 J rfl fun U J=>bB J G rfl (fun d9 G=>?_) fun d9 G=>?_
  ·refine nz 2 J rfl fun U J=>?_
   replace X:=SH.optS (aM (x:=I) (X.pk 1 |>.pk 1))
   cases G
   refine wp_ret (hQ _ _ ?_)
   exact lv Tryz.results12 J rfl ⟨rfl,X⟩
  refine wp_skip (d6 _ _ ?_)
  refine ws fun i4 e0=>xk 2 J rfl fun U J=>?_
  replace X:=X.pk 1 |>.pk 1
  obtain⟨z,e1,G⟩:=bnd G
  refine x_c aW1 J rfl (rL e1 X :) fun v U w hR J=>?_
  obtain⟨rfl,X⟩:=hR
  refine nk 5 J rfl fun U J=>e0 _ _ (wp_seq_k fun i5 e2=>?_)
  refine wp_seq_k fun e3 e4=>?_
  have hj1:∀b5,dZ a1 a2 I z b5=some y→∀b6 b7 b8 U w,FR 80 [] U [(0,(pP C)),(1,str a1),(2,.slice A2 n2 c2),(8,.int .i64 z.1),(9,.bool z.2),(44,.bool b5)]→SH r (blk C 58 [.slice b6 b7 b8,.int .i64 I.f1,.int .i64 I.f2,.bool I.f3,.int .i64 I.f4]::own2 kp64 (kI .u8) 5 (fun x:S64=>x.f1) 64 b6 b7 b8 I.f0::L) w→e3 U w:=by
   intro b5 G b6 b7 b8 U w J X
   unfold dZ at G
   refine e4 _ _ (bB J G rfl (fun e5 G=>?_) fun e5 G=>?_)
   ·refine nz 1 J rfl fun U J=>?_
    replace X:=SH.optS (aM (x:=I) (X.pk 1 |>.pk 1))
    cases G
    refine wp_ret (hQ _ _ ?_)
    exact lv Tryz.results12 J rfl ⟨rfl,X⟩
   refine wp_skip (e2 _ _ ?_)
   refine ws fun i6 e6=>xk 1 J rfl fun U J=>?_
   replace X:=aM (x:=I) (X.pk 1 |>.pk 1)
   obtain⟨S,e7,G⟩:=bnd G
   refine x_c aYd J rfl (vC e7 X :) fun v U w hR J=>?_
   obtain⟨rfl,X⟩:=hR
   obtain⟨c5,c6,c7,X⟩:=bG X
   refine x_m J rfl fun U J=>wn (e6 _ _ ?_)
   refine wp_seq_k fun e8 e9=>?_
   have hj2:∀a6,fZ a2 z S a6=some y→∀a5 a7 a8 U w,FR 80 [] U [(0,(pP C)),(2,.slice A2 n2 c2),(8,.int .i64 z.1),(10,.bool S.1)]→SH r (blk C 58 [.slice a5 a7 a8,.int .i64 S.2.f1,.int .i64 S.2.f2,.bool S.2.f3,.int .i64 S.2.f4]::own2 kp64 (kI .u8) 5 (fun x:S64=>x.f1) 64 a5 a7 a8 a6::L) w→e8 U w:=by
    intro a6 G a5 a7 a8 U w J X
    unfold fZ at G
    refine e9 _ _ (wp_seq_k fun i7 f5=>?_)
    refine cN [0,1,3,7,0,0,32,96,224,0,992,2016,4064,0,16352,32767,65535,131071] [14,17] rfl J X (by kernel_rfl) (by kernel_rfl) (by kernel_rfl) (by kernel_rfl) fun w X=>?_
    obtain⟨a4,b9,G⟩:=bnd G
    have hS_172:=X
    obtain⟨i8,f6,f7,f8,c8,c0,X⟩:=aGf (X.pk 1) b9
    obtain⟨cs,hV,f9⟩:=el (X.rd 0 rfl) c0
    obtain rfl:=hV
    refine⟨[(0,(pP C)),(1,(pP C)),(2,(pP C)),(3,.slice a5 a7 a8),(4,.int .i64 z.1),(5,(pP C)),(6,(pP C)),(7,(pP C)),(8,.slice a5 a7 a8),(9,.int .i64 z.1),(10,.pointer (some (ea a5 (z.1.toNat * 3)))),(11,.pointer (some (ea a5 (z.1.toNat * 3+1)))),(12,.slice f6 f7 f8),(13,.slice A2 n2 c2)],?_⟩
    refine dF [0,1,2,3,4,5,6,7,8,9,10,11,12,13] [14] (by kernel_rfl) ⟨pm rfl,pt [(61,_)] rfl (fun U J=>dC rfl (J.ev rfl)),pt [(62,_)] rfl (fun U J=>eR uV J rfl rfl),pt [(63,_)] rfl (fun U J=>cM jS (hS_172.cell 0 rfl 0 _ rfl) J rfl rfl rfl),pm rfl,pm rfl,pt [(66,_)] rfl (fun U J=>dC rfl (J.ev rfl)),pt [(67,_)] rfl (fun U J=>eR uV J rfl rfl),pt [(68,_)] rfl (fun U J=>cM jS (hS_172.cell 0 rfl 0 _ rfl) J rfl rfl rfl),pm rfl,pt [(69,_),(70,_)] rfl (fun U J=>fH jS qM (hS_172.rd2L 1 rfl) b9 J rfl rfl rfl),pt [(71,_)] rfl (fun U J=>aVb (m:=z.1.toNat * 3) aIu J rfl rfl),pt [(72,_)] rfl (fun U J=>cM fC (f9 1 _ rfl) J rfl rfl rfl),pm rfl,trivial⟩ ⟨et [(73,_),(74,_)] rfl (fun U J K hK=>?_),trivial⟩
    obtain⟨g0,G⟩:=aB G
    have hr:=X.rdl 4 ha2 rfl
    refine cQ 1 aC8 fC J X hr.1 hr.2.1 g0 rfl (fun c9 d0 d1 w X=>?_) rfl
    refine hK _ [(15,.pointer (some (ea a5 (z.1.toNat * 3)))),(16,.pointer (some (ea a5 (z.1.toNat * 3+1))))] _ rfl (dF [0,1,2,3,4,15,16] [17] (by kernel_rfl) ⟨pm rfl,pt [(61,_)] rfl (fun U J=>dC rfl (J.ev rfl)),pt [(62,_)] rfl (fun U J=>eR uV J rfl rfl),pt [(63,_)] rfl (fun U J=>cM jS (X.cell 3 rfl 0 _ rfl) J rfl rfl rfl),pm rfl,pt [(64,_),(65,_)] rfl (fun U J=>fH jS qM (X.rdp 1 rfl c8) b9 J rfl rfl rfl),pt [(76,_)] rfl (fun U J=>aVb (m:=z.1.toNat * 3) aIu J rfl rfl),trivial⟩ ⟨et [(75,_),(77,_)] rfl (fun U J K hK=>?_),trivial⟩)
    refine xE (z':=((⟨a4.f0,a4.f1++a2,a4.f2⟩:S64),c9,d0,d1)) (off:=1) (vs:=[.slice c9 d0 d1]) 1 aC0 J X rfl (dQ c0).2.2 (fun c h=>by cases h; rfl) (fun  w X=>?_) rfl rfl rfl rfl rfl rfl
    replace X:=X.pk 2 |>.pk 2 |>.pk 2
    replace X:=aUg (g:=(fun x:S64=>x.f1)) (x':=(⟨a4.f0,a4.f1++a2,a4.f2⟩:S64)) c8 c0 X
    refine hK _ [] _ rfl (gM [] (by kernel_rfl) trivial ⟨by kernel_rfl,by kernel_rfl⟩ [(0,_),(10,_)] rfl (fun U J=>?_))
    refine f5 _ _ (wp_seq_k fun i9 g1=>?_)
    refine nz 2 J rfl fun U J=>bB J G rfl (fun g2 G=>?_) fun g2 G=>?_
    ·refine nz 1 J rfl fun U J=>?_
     replace X:=X.pk 1
     replace X:=SH.optS (aM (x:=(⟨a6.set z.1.toNat (⟨a4.f0,a4.f1++a2,a4.f2⟩:S64),S.2.f1,S.2.f2,S.2.f3,S.2.f4⟩:S58)) X)
     cases G
     refine wp_ret (hQ _ _ ?_)
     exact lv Tryz.results12 J rfl ⟨rfl,X⟩
    refine wp_skip (g1 _ _ ?_)
    refine nz 1 J rfl fun U J=>?_
    replace X:=X.pk 1
    replace X:=SH.optS (aM (x:=(⟨a6.set z.1.toNat (⟨a4.f0,a4.f1++a2,a4.f2⟩:S64),S.2.f1,S.2.f2,S.2.f3,S.2.f4⟩:S58)) X)
    cases G
    refine wp_ret (hQ _ _ ?_)
    exact lv Tryz.results12 J rfl ⟨rfl,X⟩
   refine nz 2 J rfl fun U J=>bB J G rfl (fun g3 G=>?_) fun g3 G=>?_
   ·refine aC (xk 3 J rfl fun U J=>?_)
    refine aL uV J (fun U J=>?_) rfl
    refine aI jS (X.cell 0 rfl 0 _ rfl) J (fun U J=>?_) rfl
    refine xk 2 J rfl fun U J=>x_v (v:=.agg #[str a1,.slice none 0 0,.int .i64 0]) J (nU (ps:=#[(0,str a1)]) rfl (qP J rfl) (fun w=>by kernel_rfl)) rfl fun U J=>?_
    replace X:=SH.nil_own (d:=(kI .u8)) (e:=5) X
    refine gV (d:=kp64) (e:=64) (ps:=#[(0,.agg #[str a1,.slice none 0 0,.int .i64 0])]) (cells:=[str a1,.slice none 0 0,.int .i64 0]) (xs:=[((⟨a1,[],0⟩:S64),none,0,0)]) (fun w=>by kernel_rfl) rfl ⟨[str a1,.slice none 0 0,.int .i64 0],_,rfl,rfl,rfl⟩ J X (fun j0 U w X J=>?_) rfl
    replace X:=aP7 (g:=(fun x:S64=>x.f1)) (x:=(⟨a1,[],0⟩:S64)) X
    replace X:=X.pk 2
    obtain⟨g4,g5,G⟩:=bnd G
    refine x_c bBq J rfl (aZa (L:=blk C 58 [.slice c5 c6 c7,.int .i64 S.2.f1,.int .i64 S.2.f2,.bool S.2.f3,.int .i64 S.2.f4]::L) S.2.f0 z.1 [(⟨a1,[],0⟩:S64)] g5 X) fun v U w hR J=>?_
    obtain⟨g6,g7,g8,rfl,X⟩:=hR
    refine xk 1 J rfl fun U J=>aL uV J (fun U J=>?_) rfl
    refine dH 1 aXs J X rfl (fun  U w X J=>?_) rfl
    exact wpList_nil (hj2 g4 G g6 g7 g8 U w (J.sub _ rfl) X)
   exact wp_skip (hj2 S.2.f0 G c5 c6 c7 U w (J.sub _ rfl) X)
  refine cN [0,1,0,4,12,28,0,64,252,511,1023,2047,4095,8191,16383,32767,65535,131071,262143,524287,1048575,2097151] [7] rfl J X (by kernel_rfl) (by kernel_rfl) (by kernel_rfl) (by kernel_rfl) fun w X=>⟨[(0,.slice A2 n2 c2),(1,.int .i64 (a2.length:Int)),(2,(pP C)),(3,(pP C)),(4,.pointer (some ⟨C,1,none⟩)),(5,.int .i64 I.f1),(6,(pP C))],?_⟩
  refine dF [0,1,2,3,4,5,6] [7] (by kernel_rfl) ⟨pm rfl,pt [(23,_)] rfl (fun U J=>aDm fC (X.rdl 2 ha2 rfl).2.1 J rfl rfl),pm rfl,pt [(25,_)] rfl (fun U J=>dC rfl (J.ev rfl)),pt [(26,_)] rfl (fun U J=>eR aIc J rfl rfl),pt [(27,_)] rfl (fun U J=>cM uu3 (X.cell 0 rfl 1 _ rfl) J rfl rfl rfl),pm rfl,trivial⟩ ⟨et [(29,_)] rfl (fun U J K hK=>?_),trivial⟩
  replace X:=SH.optS (aM (x:=I) (X.pk 1 |>.pk 1))
  obtain⟨c3,g9,G⟩:=bnd G
  refine nQ bAw J (aBh g9 X :) (fun v w hR=>?_) rfl
  obtain⟨rfl,X⟩:=hR
  obtain⟨a9,b3,b4,X⟩:=bG (SH.unoptP X)
  obtain⟨H,c4,G⟩:=nZ G
  refine bcG G (fun Y G=>?_) fun Y G=>?_
  ·refine hK _ [(8,.int .i64 H),(9,.bool (decide (H<(a2.length:Int)))),(10,.bool (decide (H<(a2.length:Int)))),(11,undef),(12,undef),(13,undef),(14,undef),(15,undef),(16,undef),(17,undef),(18,undef),(19,undef),(20,undef),(21,.bool true)] _ rfl ?_
   refine gM [0,1,2,3,4,5,8,9,10,11,12,13,14,15,16,17,18,19,20,21] (by kernel_rfl) ⟨pm rfl,pt [(23,.slice A2 n2 c2)] rfl (fun U J=>aDm fC (X.rdl 2 ha2 rfl).2.1 J rfl rfl),pm rfl,pt [(25,(pP C))] rfl (fun U J=>dC rfl (J.ev rfl)),pt [(26,(pP C))] rfl (fun U J=>eR aIc J rfl rfl),pt [(27,.pointer (some ⟨C,1,none⟩))] rfl (fun U J=>cM uu3 (X.cell 0 rfl 1 _ rfl) J rfl rfl rfl),pt [(28,.int .i64 I.f1),(30,.int .i64 c3)] rfl fun U J=>jY c4 (oY rfl (J.ev rfl) (J.ev rfl)),pt [(24,.int .i64 (a2.length:Int)),(31,.int .i64 H)] rfl (fun U J=>aA9 rfl (J.ev rfl) (J.ev rfl)),pm rfl,eG rfl rfl rfl rfl [(9,.bool z.2),(33,.bool (decide (H<(a2.length:Int))))] rfl Y rfl,eG rfl rfl rfl rfl [(33,.bool (decide (H<(a2.length:Int)))),(34,undef)] rfl Y rfl,eG rfl rfl rfl rfl [(33,.bool (decide (H<(a2.length:Int)))),(35,undef)] rfl Y rfl,aCy rfl rfl rfl rfl [(0,(pP C)),(36,undef)] rfl rfl,aCy rfl rfl rfl rfl [(36,undef),(37,undef)] rfl rfl,aCy rfl rfl rfl rfl [(36,undef),(38,undef)] rfl rfl,aCy rfl rfl rfl rfl [(36,undef),(39,undef)] rfl rfl,aCy rfl rfl rfl rfl [(36,undef),(40,undef)] rfl rfl,aCy rfl rfl rfl rfl [(36,undef),(41,undef)] rfl rfl,eG rfl rfl rfl rfl [(33,.bool (decide (H<(a2.length:Int)))),(36,undef),(42,undef)] rfl Y rfl,pt [(33,.bool (decide (H<(a2.length:Int)))),(43,undef)] rfl (fun U J=>aAw Y J rfl rfl rfl),trivial⟩ ⟨by kernel_rfl,by kernel_rfl⟩ [(0,_),(1,_),(2,_),(8,_),(9,_),(44,_)] rfl (fun U J=>?_)
   exact hj1 true G a9 b3 b4 U w (J.sub _ rfl) X
  refine bcG G (fun a3 G=>?_) fun a3 G=>?_
  ·refine hK _ [(8,.int .i64 H),(9,.bool (decide (H<(a2.length:Int)))),(10,.bool (decide (H<(a2.length:Int)))),(11,.bool z.2),(12,.bool (!z.2)),(13,.bool (!z.2)),(14,(pP C)),(15,(pP C)),(16,(pP C)),(17,.slice a9 b3 b4),(18,.int .i64 (I.f0.length:Int)),(19,.bool (decide (500≤(I.f0.length:Int)))),(20,.bool (decide (500≤(I.f0.length:Int)))),(21,.bool (decide (500≤(I.f0.length:Int))))] _ rfl ?_
   refine gM [0,1,2,3,4,5,8,9,10,11,12,13,14,15,16,17,18,19,20,21] (by kernel_rfl) ⟨pm rfl,pt [(23,.slice A2 n2 c2)] rfl (fun U J=>aDm fC (X.rdl 2 ha2 rfl).2.1 J rfl rfl),pm rfl,pt [(25,(pP C))] rfl (fun U J=>dC rfl (J.ev rfl)),pt [(26,(pP C))] rfl (fun U J=>eR aIc J rfl rfl),pt [(27,.pointer (some ⟨C,1,none⟩))] rfl (fun U J=>cM uu3 (X.cell 0 rfl 1 _ rfl) J rfl rfl rfl),pt [(28,.int .i64 I.f1),(30,.int .i64 c3)] rfl fun U J=>jY c4 (oY rfl (J.ev rfl) (J.ev rfl)),pt [(24,.int .i64 (a2.length:Int)),(31,.int .i64 H)] rfl (fun U J=>aA9 rfl (J.ev rfl) (J.ev rfl)),pm rfl,iH rfl rfl rfl rfl [(9,.bool z.2),(33,.bool (decide (H<(a2.length:Int))))] rfl Y (fun U J=>mH J rfl rfl) rfl,iH rfl rfl rfl rfl [(33,.bool (decide (H<(a2.length:Int)))),(34,.bool z.2)] rfl Y (fun U J=>aCp rfl (J.ev rfl)) rfl,iH rfl rfl rfl rfl [(33,.bool (decide (H<(a2.length:Int)))),(35,.bool (!z.2))] rfl Y (fun U J=>mH J rfl rfl) rfl,iH rfl rfl rfl rfl [(0,(pP C)),(36,.bool (!z.2))] rfl a3 (fun U J=>mH J rfl rfl) rfl,iH rfl rfl rfl rfl [(36,.bool (!z.2)),(37,(pP C))] rfl a3 (fun U J=>dC rfl (J.ev rfl)) rfl,iH rfl rfl rfl rfl [(36,.bool (!z.2)),(38,(pP C))] rfl a3 (fun U J=>eR uV J rfl rfl) rfl,iH rfl rfl rfl rfl [(36,.bool (!z.2)),(39,(pP C))] rfl a3 (fun U J=>cM jS (X.cell 0 rfl 0 _ rfl) J rfl rfl rfl) rfl,iH rfl rfl rfl rfl [(36,.bool (!z.2)),(40,.slice a9 b3 b4)] rfl a3 (fun U J=>aDm jS (X.rd2L 1 rfl).2.1 J rfl rfl) rfl,iH rfl rfl rfl rfl [(36,.bool (!z.2)),(41,.int .i64 (I.f0.length:Int))] rfl a3 (fun U J=>aV2 rfl (J.ev rfl) (J.ev rfl)) rfl,iH rfl rfl rfl rfl [(33,.bool (decide (H<(a2.length:Int)))),(36,.bool (!z.2)),(42,.bool (decide (500≤(I.f0.length:Int))))] rfl Y (fun U J=>aAw a3 J rfl rfl rfl) rfl,pt [(33,.bool (decide (H<(a2.length:Int)))),(43,.bool (decide (500≤(I.f0.length:Int))))] rfl (fun U J=>yN Y J rfl rfl rfl),trivial⟩ ⟨by kernel_rfl,by kernel_rfl⟩ [(0,_),(1,_),(2,_),(8,_),(9,_),(44,_)] rfl (fun U J=>?_)
   exact hj1 (decide (500≤(I.f0.length:Int))) G a9 b3 b4 U w (J.sub _ rfl) X
  refine hK _ [(8,.int .i64 H),(9,.bool (decide (H<(a2.length:Int)))),(10,.bool (decide (H<(a2.length:Int)))),(11,.bool z.2),(12,.bool (!z.2)),(13,.bool (!z.2)),(14,undef),(15,undef),(16,undef),(17,undef),(18,undef),(19,undef),(20,.bool false),(21,.bool false)] _ rfl ?_
  refine gM [0,1,2,3,4,5,8,9,10,11,12,13,14,15,16,17,18,19,20,21] (by kernel_rfl) ⟨pm rfl,pt [(23,.slice A2 n2 c2)] rfl (fun U J=>aDm fC (X.rdl 2 ha2 rfl).2.1 J rfl rfl),pm rfl,pt [(25,(pP C))] rfl (fun U J=>dC rfl (J.ev rfl)),pt [(26,(pP C))] rfl (fun U J=>eR aIc J rfl rfl),pt [(27,.pointer (some ⟨C,1,none⟩))] rfl (fun U J=>cM uu3 (X.cell 0 rfl 1 _ rfl) J rfl rfl rfl),pt [(28,.int .i64 I.f1),(30,.int .i64 c3)] rfl fun U J=>jY c4 (oY rfl (J.ev rfl) (J.ev rfl)),pt [(24,.int .i64 (a2.length:Int)),(31,.int .i64 H)] rfl (fun U J=>aA9 rfl (J.ev rfl) (J.ev rfl)),pm rfl,iH rfl rfl rfl rfl [(9,.bool z.2),(33,.bool (decide (H<(a2.length:Int))))] rfl Y (fun U J=>mH J rfl rfl) rfl,iH rfl rfl rfl rfl [(33,.bool (decide (H<(a2.length:Int)))),(34,.bool z.2)] rfl Y (fun U J=>aCp rfl (J.ev rfl)) rfl,iH rfl rfl rfl rfl [(33,.bool (decide (H<(a2.length:Int)))),(35,.bool (!z.2))] rfl Y (fun U J=>mH J rfl rfl) rfl,eG rfl rfl rfl rfl [(0,(pP C)),(36,.bool (!z.2))] rfl a3 rfl,eG rfl rfl rfl rfl [(36,.bool (!z.2)),(37,undef)] rfl a3 rfl,eG rfl rfl rfl rfl [(36,.bool (!z.2)),(38,undef)] rfl a3 rfl,eG rfl rfl rfl rfl [(36,.bool (!z.2)),(39,undef)] rfl a3 rfl,eG rfl rfl rfl rfl [(36,.bool (!z.2)),(40,undef)] rfl a3 rfl,eG rfl rfl rfl rfl [(36,.bool (!z.2)),(41,undef)] rfl a3 rfl,iH rfl rfl rfl rfl [(33,.bool (decide (H<(a2.length:Int)))),(36,.bool (!z.2)),(42,undef)] rfl Y (fun U J=>yN a3 J rfl rfl rfl) rfl,pt [(33,.bool (decide (H<(a2.length:Int)))),(43,.bool false)] rfl (fun U J=>yN Y J rfl rfl rfl),trivial⟩ ⟨by kernel_rfl,by kernel_rfl⟩ [(0,_),(1,_),(2,_),(8,_),(9,_),(44,_)] rfl (fun U J=>?_)
  exact hj1 false G a9 b3 b4 U w (J.sub _ rfl) X
theorem aBv {a0 a1 p0 y} (G:pY a0 a1=some y) (X:SH r (sB (obj58) p0 a0::L) w) :
  Ret Tryz.prog 61 #[.pointer p0,str a1] w fun v w'=>∃ (B0:Option Addr) (m0:Nat) (d0:Nat),v=.tuple #[(.slice B0 m0 d0),(.int .i64 y.2)]∧SH r (own (kI .u8) 5 B0 m0 d0 y.1::sB (obj58) p0 a0::L) w':=by
 refine enter Tryz.func61 rfl Tryz.ntmps61 [(0,_),(1,_)] rfl (by simp) ?_
 intro U J Qf hQ hQn
 unfold pY at G
 cases a0 with
 | none =>
  have hU:=SH.unoptN X
  clear X
  obtain⟨rfl,X⟩:=hU
  refine nz 2 J rfl fun U J=>wp_seq_k fun c4 H=>ws fun c5 I=>xk 2 J rfl fun U J=>?_
  replace X:=SH.optN (obj58) X
  obtain⟨c6,S,G⟩:=bnd G
  refine x_c aRf J rfl (kW S X :) fun v U w hR J=>?_
  obtain⟨rfl,X⟩:=hR
  refine x_m J rfl fun U J=>wn (I _ _ ?_)
  refine nz 2 J rfl fun U J=>bB J G rfl (fun Y G=>?_) fun Y G=>?_
  ·refine nz 3 J rfl fun U J=>?_
   replace X:=(SH.optN (obj58) (SH.nil_own (d:=(kI .u8)) (e:=5) X)).drop 2 |>.pk 1
   cases G
   refine wp_ret (hQ _ _ ?_)
   exact lv2 Tryz.results61 J rfl rfl ⟨none,0,0,rfl,X⟩
  refine wp_skip (H _ _ ?_)
  refine ws fun c7 c8=>xk 2 J rfl fun U J=>?_
  cases G
 | some h =>
  have hU:=SH.unoptS X
  clear X
  obtain⟨c9,rfl,X⟩:=hU
  obtain⟨d1,d2,d3,X⟩:=bG X
  refine nz 2 J rfl fun U J=>wp_seq_k fun d4 a2=>ws fun d5 a3=>xk 2 J rfl fun U J=>?_
  replace X:=SH.optS (aM (x:=h) (X.pk 1 |>.pk 1))
  obtain⟨d6,a4,G⟩:=bnd G
  refine x_c aRf J rfl (kW a4 X :) fun v U w hR J=>?_
  obtain⟨rfl,X⟩:=hR
  obtain⟨d7,d8,d9,X⟩:=bG (SH.unoptP X)
  refine x_m J rfl fun U J=>wn (a3 _ _ ?_)
  refine nz 2 J rfl fun U J=>bB J G rfl (fun a5 G=>?_) fun a5 G=>?_
  ·refine nz 3 J rfl fun U J=>?_
   replace X:=(SH.optS (aM (x:=h) ((SH.nil_own (d:=(kI .u8)) (e:=5) X).pk 2 |>.pk 2))).pk 1
   cases G
   refine wp_ret (hQ _ _ ?_)
   exact lv2 Tryz.results61 J rfl rfl ⟨none,0,0,rfl,X⟩
  refine wp_skip (a2 _ _ ?_)
  refine ws fun e0 a6=>xk 2 J rfl fun U J=>?_
  replace X:=X.pk 1 |>.pk 1
  obtain⟨a7,a8,G⟩:=bnd G
  refine x_c aW1 J rfl (rL a8 X :) fun v U w hR J=>?_
  obtain⟨rfl,X⟩:=hR
  refine nk 5 J rfl fun U J=>a6 _ _ (wp_seq_k fun e1 a9=>?_)
  refine nz 2 J rfl fun U J=>bB J G rfl (fun b3 G=>?_) fun b3 G=>?_
  ·refine nz 2 J rfl fun U J=>?_
   replace X:=(SH.optS (aM (x:=h) ((SH.nil_own (d:=(kI .u8)) (e:=5) X).pk 2 |>.pk 2))).pk 1
   cases G
   refine wp_ret (hQ _ _ ?_)
   exact lv2 Tryz.results61 J rfl rfl ⟨none,0,0,rfl,X⟩
  refine wp_skip (a9 _ _ ?_)
  refine ws fun e2 b4=>xk 2 J rfl fun U J=>aL uV J (fun U J=>?_) rfl
  refine aI jS (X.cell 0 rfl 0 _ rfl) J (fun U J=>?_) rfl
  refine x_m J rfl fun U J=>?_
  obtain⟨b5,z,G⟩:=bnd G
  refine fO jS qM (X.rd2L 1 rfl) z J (fun U J=>?_) rfl
  refine aV0 (m:=a7.1.toNat * 3) aIu J (fun U J=>?_) rfl rfl rfl rfl rfl
  obtain⟨e3,e4,e5,e6,b6,C,X⟩:=aGf (X.pk 1) z
  obtain⟨cs,hV,b7⟩:=el (X.rd 0 rfl) C
  obtain rfl:=hV
  refine aI fC (b7 1 _ rfl) J (fun U J=>?_) rfl
  obtain⟨e7,b8,G⟩:=bnd G
  refine x_c aZ9 J rfl (qX b8 X (RdL.own 1 rfl (X.dropN 0)) :) fun v U w hR J=>?_
  obtain⟨b9,c0,c3,rfl,X⟩:=hR
  refine nk 2 J rfl fun U J=>?_
  replace X:=X.pk 3 |>.pk 3 |>.pk 3
  replace X:=aQy (g:=(fun x:S64=>x.f1)) (x:=b5) b6 C X
  replace X:=(SH.optS (aM (x:=h) (X.pk 2))).pk 1
  cases G
  refine b4 _ _ (wp_ret ?_)
  refine hQ _ _ (lv2 Tryz.results61 J rfl rfl ?_)
  exact⟨b9,c0,c3,rfl,X⟩
end
noncomputable section
set_option linter.unusedSimpArgs false
def lT (a0:Int) (a1:S58):Option (S58) :=
  ltt (IntKind.i64.wrap (a0+1)) fun h=>((aTt a1.f0 a0 h).bind fun z=>(some (⟨z,a1.f1,a1.f2,a1.f3,a1.f4⟩:S58)))
end
section
variable {r:World} {L:List HP} {w:World} {Z:Nat→Prop} {wz:World}
theorem yV {a0 a1 g1 h1 y} (G:lT a0 a1=some y) (X:SH r (blk g1 27 [.pointer (some ⟨h1,0,none⟩)]::obj58 h1 a1::L) w) :
  Ret Tryz.prog 49 #[.int .i64 a0,(pP g1)] w fun v w'=>v=.tuple #[]∧SH r (blk g1 27 [.pointer (some ⟨h1,0,none⟩)]::obj58 h1 y::L) w':=by
 refine enter Tryz.func49 rfl Tryz.ntmps49 [(0,_),(1,_)] rfl (by simp) ?_
 intro U J Qf hQ hQn
 unfold lT at G
 obtain⟨h,z,C,X⟩:=bG (X.pk 1)
 refine cN [0,0,2,6,14,0,0,64,254,511,1023,2047] [8,11] rfl J X (by kernel_rfl) (by kernel_rfl) (by kernel_rfl) (by kernel_rfl) fun w X=>?_
 obtain⟨H,I,G⟩:=nZ G
 refine⟨[(0,(pP h1)),(1,(pP h1)),(2,(pP h1)),(3,(pP h1)),(4,.slice h z C),(5,.int .i64 a0),(6,.int .i64 a0),(7,.int .i64 H)],?_⟩
 refine dF [0,1,2,3,4,5,6,7] [8] (by kernel_rfl) ⟨pt [(1,_)] rfl (fun U J=>cM yT (X.cell 2 rfl 0 _ rfl) J rfl rfl rfl),pt [(1,_)] rfl (fun U J=>cM yT (X.cell 2 rfl 0 _ rfl) J rfl rfl rfl),pt [(4,_)] rfl (fun U J=>dC rfl (J.ev rfl)),pt [(5,_)] rfl (fun U J=>eR uV J rfl rfl),pt [(6,_)] rfl (fun U J=>cM jS (X.cell 0 rfl 0 _ rfl) J rfl rfl rfl),pm rfl,pm rfl,pt [(9,_)] rfl fun U J=>jY I (iR rfl (J.ev rfl) (J.ev rfl)),trivial⟩ ⟨et [(7,_),(8,_),(10,_)] rfl (fun U J K hK=>?_),trivial⟩
 replace X:=X.pk 1
 obtain⟨S,Y,G⟩:=bnd G
 refine nQ bA4 J (aZe (L:=blk h1 58 [.slice h z C,.int .i64 a1.f1,.int .i64 a1.f2,.bool a1.f3,.int .i64 a1.f4]::blk g1 27 [.pointer (some ⟨h1,0,none⟩)]::L) a1.f0 a0 H Y X) (fun v w hR=>?_) rfl
 obtain⟨a2,a3,a4,rfl,X⟩:=hR
 refine hK _ [(9,(pP h1)),(10,(pP h1))] _ rfl (dF [0,9,10] [11] (by kernel_rfl) ⟨pt [(1,_)] rfl (fun U J=>cM yT (X.cell 2 rfl 0 _ rfl) J rfl rfl rfl),pt [(3,_)] rfl (fun U J=>dC rfl (J.ev rfl)),pt [(12,_)] rfl (fun U J=>eR uV J rfl rfl),trivial⟩ ⟨et [(11,_),(13,_)] rfl (fun U J K hK=>?_),trivial⟩)
 refine aLg 1 aXs J X rfl (fun  w X=>?_) rfl
 refine hK _ [] _ rfl (gM [] (by kernel_rfl) trivial ⟨by kernel_rfl,by kernel_rfl⟩ [(1,_)] rfl (fun U J=>?_))
 replace X:=X.pk 1 |>.pk 1
 replace X:=(aM (x:=(⟨S,a1.f1,a1.f2,a1.f3,a1.f4⟩:S58)) X).pk 1
 cases G
 refine hQn _ _ (aB1 Tryz.results49 J ?_)
 exact⟨rfl,X⟩
end
noncomputable section
set_option linter.unusedSimpArgs false
def jQ (a1:(List UInt8)) (h:S58):Option (Int×S58) :=
  (eY (some h) a1).bind fun C=>(if (C != 0)=true then (some (C,h)) else ((gP h a1).bind fun G=>(if (!G.2)=true then (some (5,h)) else ((jK h).bind fun z=>(if (!z.1)=true then (some (9,z.2)) else ((lT G.1 z.2).bind fun H=>(some (0,H))))))))
def kV (a0:(Option S58)) (a1:(List UInt8)):Option (Int×(Option S58)) :=
  match a0 with | none=>(none) | some z=>((jQ a1 z).bind fun h=>(some (h.1,some h.2)))
end
section
variable {r:World} {L:List HP} {w:World} {Z:Nat→Prop} {wz:World}
theorem yY {a1 h C z y} (G:jQ a1 h=some y) (X:SH r (blk C 27 [.pointer (some ⟨z,0,none⟩)]::obj58 z h::L) w) :
  Ret Tryz.prog 48 #[.pointer (some ⟨z,0,none⟩),str a1,.func (.func 49) #[] #[.pointer (some ⟨C,0,none⟩)]] w fun v w'=>v=.int .i64 y.1∧SH r (blk C 27 [.pointer (some ⟨z,0,none⟩)]::obj58 z y.2::L) w':=by
 refine enter Tryz.func48 rfl Tryz.ntmps48 [(0,_),(1,_),(2,_)] rfl (by simp) ?_
 intro U J Qf hQ hQn
 unfold jQ at G
 obtain⟨b6,b7,b8,X⟩:=bG (X.pk 1)
 refine nz 1 J rfl fun U J=>wp_seq_k fun b9 I=>ws fun c0 S=>xk 2 J rfl fun U J=>?_
 replace X:=SH.optS (aM (x:=h) (X.pk 1 |>.pk 1))
 obtain⟨c3,Y,G⟩:=bnd G
 refine x_c aRf J rfl (kW Y X :) fun v U w hR J=>?_
 obtain⟨rfl,X⟩:=hR
 obtain⟨c4,c5,c6,X⟩:=bG (SH.unoptP X)
 refine x_m J rfl fun U J=>wn (S _ _ ?_)
 refine nz 2 J rfl fun U J=>bB J G rfl (fun a0 G=>?_) fun a0 G=>?_
 ·refine nz 2 J rfl fun U J=>?_
  replace X:=(aM (x:=h) (X.pk 1 |>.pk 1)).pk 1
  cases G
  refine wp_ret (hQ _ _ ?_)
  exact lv Tryz.results48 J rfl ⟨rfl,X⟩
 refine wp_skip (I _ _ ?_)
 refine ws fun c7 a2=>xk 2 J rfl fun U J=>?_
 replace X:=X.pk 1 |>.pk 1
 obtain⟨c8,a3,G⟩:=bnd G
 refine x_c aW1 J rfl (rL a3 X :) fun v U w hR J=>?_
 obtain⟨rfl,X⟩:=hR
 refine nk 5 J rfl fun U J=>a2 _ _ (wp_seq_k fun c9 a4=>?_)
 refine nz 2 J rfl fun U J=>bB J G rfl (fun a5 G=>?_) fun a5 G=>?_
 ·refine nz 1 J rfl fun U J=>?_
  replace X:=(aM (x:=h) (X.pk 1 |>.pk 1)).pk 1
  cases G
  refine wp_ret (hQ _ _ ?_)
  exact lv Tryz.results48 J rfl ⟨rfl,X⟩
 refine wp_skip (a4 _ _ ?_)
 refine wp_seq_k fun d0 a6=>ws fun d1 a7=>xk 1 J rfl fun U J=>?_
 replace X:=aM (x:=h) (X.pk 1 |>.pk 1)
 obtain⟨H,a8,G⟩:=bnd G
 refine x_c aYd J rfl (vC a8 X :) fun v U w hR J=>?_
 obtain⟨rfl,X⟩:=hR
 obtain⟨d2,d3,d4,X⟩:=bG X
 refine nk 1 J rfl fun U J=>a7 _ _ (bB J G rfl (fun a9 G=>?_) fun a9 G=>?_)
 ·refine nz 1 J rfl fun U J=>?_
  replace X:=(aM (x:=H.2) (X.pk 1 |>.pk 1)).pk 1
  cases G
  refine wp_ret (hQ _ _ ?_)
  exact lv Tryz.results48 J rfl ⟨rfl,X⟩
 refine wp_skip (a6 _ _ ?_)
 refine ws fun d5 b3=>xk 2 J rfl fun U J=>?_
 replace X:=(aM (x:=H.2) (X.pk 1 |>.pk 1)).pk 1
 obtain⟨b4,b5,G⟩:=bnd G
 refine x_c bCh J rfl (yV b5 X :) fun v U w hR J=>?_
 obtain⟨rfl,X⟩:=hR
 obtain⟨d6,d7,d8,X⟩:=bG (X.pk 1)
 refine wn (b3 _ _ ?_)
 refine nz 1 J rfl fun U J=>?_
 replace X:=(aM (x:=b4) (X.pk 1 |>.pk 1)).pk 1
 cases G
 refine wp_ret (hQ _ _ ?_)
 exact lv Tryz.results48 J rfl ⟨rfl,X⟩
theorem uJ {a0 a1 p0 y} (G:kV a0 a1=some y) (X:SH r (sB (obj58) p0 a0::L) w) :
  Ret Tryz.prog 33 #[.pointer p0,str a1] w fun v w'=>v=.int .i64 y.1∧SH r (sB (obj58) p0 y.2::L) w':=by
 refine enter Tryz.func33 rfl Tryz.ntmps33 [(0,_),(1,_)] rfl (by simp) ?_
 intro U J Qf hQ hQn
 unfold kV at G
 cases a0 with
 | none =>
  have hU:=SH.unoptN X
  clear X
  obtain⟨rfl,X⟩:=hU
  refine ws fun a3 h=>nY J X (fun z U w X J=>?_) rfl
  refine x_m J rfl fun U J=>wn (h _ _ ?_)
  refine ws fun a4 a5=>aI yT (X.cell 0 rfl 0 _ rfl) J (fun U J=>?_) rfl
  refine x_m J rfl fun U J=>x_v J (mF rfl (rU (vals:=#[]) J rfl) (rU (vals:=#[.pointer (some ⟨z,0,none⟩)]) J rfl)) rfl fun U J=>?_
  cases G
 | some C =>
  have hU:=SH.unoptS X
  clear X
  obtain⟨a6,rfl,X⟩:=hU
  obtain⟨a7,a8,a9,X⟩:=bG X
  refine ws fun b3 H=>nY J X (fun I U w X J=>?_) rfl
  refine x_m J rfl fun U J=>wn (H _ _ ?_)
  refine ws fun b4 S=>aI yT (X.cell 0 rfl 0 _ rfl) J (fun U J=>?_) rfl
  refine x_m J rfl fun U J=>x_v J (mF rfl (rU (vals:=#[]) J rfl) (rU (vals:=#[.pointer (some ⟨I,0,none⟩)]) J rfl)) rfl fun U J=>?_
  replace X:=(aM (x:=C) (X.pk 2 |>.pk 2)).pk 1
  obtain⟨Y,a2,G⟩:=bnd G
  refine x_c bBh J rfl (yY a2 X :) fun v U w hR J=>?_
  obtain⟨rfl,X⟩:=hR
  obtain⟨b5,b6,b7,X⟩:=bG (X.pk 1)
  refine x_m J rfl fun U J=>wn (S _ _ ?_)
  replace X:=(SH.optS (aM (x:=Y.2) (X.pk 1 |>.pk 1))).drop 1
  cases G
  refine wp_ret (hQ _ _ ?_)
  exact lv Tryz.results33 J rfl ⟨rfl,X⟩
end
noncomputable section
set_option linter.unusedSimpArgs false
def mR (a0:S26):Option (Bool) :=
  if (decide (1≤a0.f0))=true then (if (decide (a0.f0≤4096))=true then (if (decide (2≤a0.f1))=true then (some (decide (a0.f1≤16))) else (some false)) else (some false)) else (some false)
def jF (h:(List Int)) (z:(List S47)):Option ((List Int)) :=
  (yH h z).bind fun C=>(some (C))
def kZ (a0:S67) (h:((List UInt8))) (C:Int) (G:(List Int)):Option ((List UInt8)×Int×S67) :=
  (nX (some a0.f0) ([114,117,110,46]++h) G).bind fun z=>((z.2).bind fun H=>(some ([114,117,110,46]++h,z.1,(⟨H,a0.f1,a0.f2,C⟩:S67))))
def jG (a0:S67) (a1:(List S47)):Option ((List UInt8)×Int×S67) :=
  (strconv_Itoa a0.f3).bind fun h=>(chk ([114,117,110,46].length+h.length≤maxLen) (ltt (IntKind.i64.wrap (a0.f3+1)) fun z=>((chk (a1.length≤4611686018427387904) ((pcs 64 a1).foldlM (fun s l=>jF s l) ([]))).bind fun t=>kZ a0 h z t)))
def lN (a0:S67) (a1:(List UInt8)) (h:Int) (C:(List S47)):Option ((List S47)×Int×S67) :=
  if (h != 0)=true then (some ([],h,a0)) else ((kV (some a0.f0) a1).bind fun z=>((z.2).bind fun G=>(some (C,z.1,(⟨G,a0.f1,a0.f2,a0.f3⟩:S67)))))
def jV (a0:S67) (a1:(List UInt8)) (h:Int) (z:(List S47)):Option ((List S47)×Int×S67) :=
  lN a0 a1 h z
def gQ (a0:S67) (C:((List Int)×Int)) (G:Int) (z:(List S47)) (H:Int) (I:Bool):Option ((Int×(List S47)×Int)⊕((Int×(List S47)))) :=
  if I=true then ((rI C.1 H a0.f2).bind fun h=>(chk (z.length+h.1.length≤140737488355328 / 48) (some (.inl (h.2.2,z++h.1,h.2.1))))) else (some (.inr (G,z)))
def cZ (a0:S67) (h:((List Int)×Int)) (z:Int) (G:(List S47)) (C:Int):Option ((Int×(List S47)×Int)⊕((Int×(List S47)))) :=
  if (z==0)=true then (gQ a0 h z G C (decide (C<(h.1.length:Int)))) else (gQ a0 h z G C false)
def jH (a0:S67) (a1:(List UInt8)):Option ((List S47)×Int×S67) :=
  (pY (some a0.f0) a1).bind fun h=>((loop (fun s=>cZ a0 h s.1 s.2.1 s.2.2) (h.2,[],0)).bind fun t=>jV a0 a1 t.1 t.2)
def uU (h:(List S64)) (z:Int) (C:Int) (G:Bool) (H:Int):Option (Int×(Option S58)) :=
  some (0,some (⟨h,z,C,G,H⟩:S58))
def oV (h:(List S64)) (z:Int) (C:Int) (G:Bool) (H:Int):Option (Int×(Option S58)) :=
  uU h z C G H
def lJ (h:Int) (z:(List S64)) (C:Int) (G:Int) (H:Bool) (I:Int):Option (((List S64)×Int×Int×Bool×Int×Int)⊕(((List S64)×Int×Int×Bool×Int)⊕(Int×(Option S58)))) :=
  ltt (IntKind.i64.wrap (h+1)) fun J=>(some (.inl (z,C,G,H,I,J)))
def eE (U:((List (List UInt8)))) (C:(List S64)) (G:Int) (H:Int) (I:Bool) (J:Int) (z:Int):Option (((List S64)×Int×Int×Bool×Int×Int)⊕(((List S64)×Int×Int×Bool×Int)⊕(Int×(Option S58)))) :=
  if (decide (z<(U.length:Int)))=true then ((at_ U z).bind fun X=>((mE X [114,117,110,46]).bind fun Y=>(if Y=true then ((kV (some (⟨C,G,H,I,J⟩:S58)) X).bind fun S=>((S.2).bind fun h=>(if (S.1 != 0)=true then (some (.inr (.inr (S.1,some h)))) else (lJ z h.f0 h.f1 h.f2 h.f3 h.f4)))) else (lJ z C G H I J)))) else (some (.inr (.inl (C,G,H,I,J))))
def nS (a0:(Option S58)):Option (Int×(Option S58)) :=
  match a0 with | none=>(some (5,none)) | some h=>((mU (some h)).bind fun z=>((loop (fun s=>eE z s.1 s.2.1 s.2.2.1 s.2.2.2.1 s.2.2.2.2.1 s.2.2.2.2.2) (h.f0,h.f1,h.f2,h.f3,h.f4,0)).bind fun t=>match t with | (.inl t)=>oV t.1 t.2.1 t.2.2.1 t.2.2.2.1 t.2.2.2.2 | (.inr t)=>some t))
def mL (C:(List S64)) (G:Int) (H:Int) (I:Bool) (J:Int) (S:Int) (U:Int) (X:Int) (Y:Int) (a0:(List (List S47))):Option ((List UInt8)×Int×S67) :=
  (rO a0).bind fun h=>(if (h.2 != 0)=true then (some ([],h.2,(⟨(⟨C,G,H,I,J⟩:S58),(⟨S,U⟩:S26),X,Y⟩:S67))) else ((jG (⟨(⟨C,G,H,I,J⟩:S58),(⟨S,U⟩:S26),X,Y⟩:S67) h.1).bind fun z=>(some (z.1,z.2.1,z.2.2))))
def lD (h:(List S64)) (z:Int) (C:Int) (G:Bool) (H:Int) (I:Int) (J:Int) (S:Int) (U:Int) (X:(List (List S47))):Option ((List UInt8)×Int×S67) :=
  mL h z C G H I J S U X
def fA (a1:(List (List UInt8))) (G:(List S64)) (H:Int) (I:Int) (J:Bool) (S:Int) (U:Int) (X:Int) (Y:Int) (a0:Int) (z:(List (List S47))) (C:Int):Option (((List S64)×Int×Int×Bool×Int×Int×Int×Int×Int×(List (List S47))×Int)⊕(((List S64)×Int×Int×Bool×Int×Int×Int×Int×Int×(List (List S47)))⊕((List UInt8)×Int×S67))) :=
  if (decide (C<(a1.length:Int)))=true then ((at_ a1 C).bind fun a2=>((jH (⟨(⟨G,H,I,J,S⟩:S58),(⟨U,X⟩:S26),Y,a0⟩:S67) a2).bind fun h=>(if (h.2.1 != 0)=true then (some (.inr (.inr ([],h.2.1,h.2.2)))) else (chk (z.length+[h.1].length≤140737488355328 / 24) (ltt (IntKind.i64.wrap (C+1)) fun a3=>(some (.inl (h.2.2.f0.f0,h.2.2.f0.f1,h.2.2.f0.f2,h.2.2.f0.f3,h.2.2.f0.f4,h.2.2.f1.f0,h.2.2.f1.f1,h.2.2.f2,h.2.2.f3,z++[h.1],a3)))))))) else (some (.inr (.inl (G,H,I,J,S,U,X,Y,a0,z))))
def mZ (a0:S67) (a1:(List (List UInt8))):Option ((List UInt8)×Int×S67) :=
  if ((a1.length:Int)==1)=true then ((at_ a1 0).bind fun h=>(some (h,0,a0))) else ((loop (fun s=>fA a1 s.1 s.2.1 s.2.2.1 s.2.2.2.1 s.2.2.2.2.1 s.2.2.2.2.2.1 s.2.2.2.2.2.2.1 s.2.2.2.2.2.2.2.1 s.2.2.2.2.2.2.2.2.1 s.2.2.2.2.2.2.2.2.2.1 s.2.2.2.2.2.2.2.2.2.2) (a0.f0.f0,a0.f0.f1,a0.f0.f2,a0.f0.f3,a0.f0.f4,a0.f1.f0,a0.f1.f1,a0.f2,a0.f3,[],0)).bind fun t=>match t with | (.inl t)=>lD t.1 t.2.1 t.2.2.1 t.2.2.2.1 t.2.2.2.2.1 t.2.2.2.2.2.1 t.2.2.2.2.2.2.1 t.2.2.2.2.2.2.2.1 t.2.2.2.2.2.2.2.2.1 t.2.2.2.2.2.2.2.2.2 | (.inr t)=>some t)
def fV (C:(List S64)) (G:Int) (H:Int) (I:Bool) (J:Int) (S:Int) (U:Int) (X:Int) (Y:Int) (z:(List (List UInt8))) (a0:(List S47)):Option (((List S64)×Int×Int×Bool×Int×Int×Int×Int×Int×(List (List UInt8)))⊕((List S64)×Int×Int×Bool×Int×Int×Int×Int×Int×Int)) :=
  (wV a0).bind fun a1=>((jG (⟨(⟨C,G,H,I,J⟩:S58),(⟨S,U⟩:S26),X,Y⟩:S67) a1).bind fun h=>(if (h.2.1 != 0)=true then (some (.inr (h.2.2.f0.f0,h.2.2.f0.f1,h.2.2.f0.f2,h.2.2.f0.f3,h.2.2.f0.f4,h.2.2.f1.f0,h.2.2.f1.f1,h.2.2.f2,h.2.2.f3,h.2.1))) else (chk (z.length+[h.1].length≤140737488355328 / 16) (some (.inl (h.2.2.f0.f0,h.2.2.f0.f1,h.2.2.f0.f2,h.2.2.f0.f3,h.2.2.f0.f4,h.2.2.f1.f0,h.2.2.f1.f1,h.2.2.f2,h.2.2.f3,z++[h.1]))))))
def mN (z:(List (List UInt8))) (C:(List S64)) (G:Int) (H:Int) (I:Bool) (J:Int) (S:Int) (U:Int) (X:Int) (Y:Int) (a0:(List (List UInt8))) (a1:Int):Option ((List S47)×Int×Int×Int×S67) :=
  if ((z.length:Int)==0)=true then (some ([],0,0,0,(⟨(⟨C,G,H,I,J⟩:S58),(⟨S,U⟩:S26),X,Y⟩:S67))) else ((at_ a0 0).bind fun a2=>((jH (⟨(⟨C,G,H,I,J⟩:S58),(⟨S,U⟩:S26),X,Y⟩:S67) a2).bind fun h=>(some (h.1,(z.length:Int),a1,h.2.1,h.2.2))))
def kY (h:(List (List UInt8))) (z:(List S64)) (C:Int) (G:Int) (H:Bool) (I:Int) (J:Int) (S:Int) (U:Int) (X:Int) (Y:(List (List UInt8))) (a0:Int):Option ((List S47)×Int×Int×Int×S67) :=
  mN h z C G H I J S U X Y a0
def fB (C:(List S64)) (G:Int) (H:Int) (I:Bool) (J:Int) (S:Int) (U:Int) (X:Int) (Y:Int) (z:(List (List UInt8))) (a0:(List (List UInt8))):Option (((List S64)×Int×Int×Bool×Int×Int×Int×Int×Int×(List (List UInt8)))⊕((List S64)×Int×Int×Bool×Int×Int×Int×Int×Int×Int)) :=
  (mZ (⟨(⟨C,G,H,I,J⟩:S58),(⟨S,U⟩:S26),X,Y⟩:S67) a0).bind fun h=>(if (h.2.1 != 0)=true then (some (.inr (h.2.2.f0.f0,h.2.2.f0.f1,h.2.2.f0.f2,h.2.2.f0.f3,h.2.2.f0.f4,h.2.2.f1.f0,h.2.2.f1.f1,h.2.2.f2,h.2.2.f3,h.2.1))) else (chk (z.length+[h.1].length≤140737488355328 / 16) (some (.inl (h.2.2.f0.f0,h.2.2.f0.f1,h.2.2.f0.f2,h.2.2.f0.f3,h.2.2.f0.f4,h.2.2.f1.f0,h.2.2.f1.f1,h.2.2.f2,h.2.2.f3,z++[h.1])))))
def jA (h:Int) (z:(List S64)) (C:Int) (G:Int) (H:Bool) (I:Int) (J:Int) (S:Int) (U:Int) (X:Int) (Y:(List (List UInt8))):Option (((List S64)×Int×Int×Bool×Int×Int×Int×Int×Int×(List (List UInt8))×Int)⊕(((List S64)×Int×Int×Bool×Int×Int×Int×Int×Int×(List (List UInt8))×Int)⊕((List S47)×Int×Int×Int×S67))) :=
  ltt (IntKind.i64.wrap (h+1)) fun a0=>(some (.inl (z,C,G,H,I,J,S,U,X,Y,a0)))
def jD (h:(List S64)) (z:Int) (C:Int) (G:Bool) (H:Int) (I:Int) (J:Int) (S:Int) (U:Int) (X:Int):Option (((List S64)×Int×Int×Bool×Int×Int×Int×Int×Int×(List (List UInt8))×Int)⊕(((List S64)×Int×Int×Bool×Int×Int×Int×Int×Int×(List (List UInt8))×Int)⊕((List S47)×Int×Int×Int×S67))) :=
  some (.inr (.inr ([],0,0,X,(⟨(⟨h,z,C,G,H⟩:S58),(⟨I,J⟩:S26),S,U⟩:S67))))
def cL (C:(List S64)) (G:Int) (H:Int) (I:Bool) (J:Int) (S:Int) (h:Int) (U:Int) (X:Int) (z:(List (List UInt8))) (Y:Int):Option (((List S64)×Int×Int×Bool×Int×Int×Int×Int×Int×(List (List UInt8))×Int)⊕(((List S64)×Int×Int×Bool×Int×Int×Int×Int×Int×(List (List UInt8))×Int)⊕((List S47)×Int×Int×Int×S67))) :=
  if (decide (1<(z.length:Int)))=true then (chk (1≤h) ((chk (z.length≤4611686018427387904∧1≤h∧h≤1073741824) (oT (fun s l=>fB s.1 s.2.1 s.2.2.1 s.2.2.2.1 s.2.2.2.2.1 s.2.2.2.2.2.1 s.2.2.2.2.2.2.1 s.2.2.2.2.2.2.2.1 s.2.2.2.2.2.2.2.2.1 s.2.2.2.2.2.2.2.2.2 l) (pcs h.toNat z) (C,G,H,I,J,S,h,U,X,[]))).bind fun t=>match t with | .inl t=>jA Y t.1 t.2.1 t.2.2.1 t.2.2.2.1 t.2.2.2.2.1 t.2.2.2.2.2.1 t.2.2.2.2.2.2.1 t.2.2.2.2.2.2.2.1 t.2.2.2.2.2.2.2.2.1 t.2.2.2.2.2.2.2.2.2 | .inr t=>jD t.1 t.2.1 t.2.2.1 t.2.2.2.1 t.2.2.2.2.1 t.2.2.2.2.2.1 t.2.2.2.2.2.2.1 t.2.2.2.2.2.2.2.1 t.2.2.2.2.2.2.2.2.1 t.2.2.2.2.2.2.2.2.2)) else (some (.inr (.inl (C,G,H,I,J,S,h,U,X,z,Y))))
def lQ (z:(List S64)) (C:Int) (G:Int) (H:Bool) (I:Int) (J:Int) (S:Int) (U:Int) (X:Int) (h:(List (List UInt8))):Option ((List S47)×Int×Int×Int×S67) :=
  (loop (fun s=>cL s.1 s.2.1 s.2.2.1 s.2.2.2.1 s.2.2.2.2.1 s.2.2.2.2.2.1 s.2.2.2.2.2.2.1 s.2.2.2.2.2.2.2.1 s.2.2.2.2.2.2.2.2.1 s.2.2.2.2.2.2.2.2.2.1 s.2.2.2.2.2.2.2.2.2.2) (z,C,G,H,I,J,S,U,X,h,0)).bind fun t=>match t with | (.inl t)=>kY h t.1 t.2.1 t.2.2.1 t.2.2.2.1 t.2.2.2.2.1 t.2.2.2.2.2.1 t.2.2.2.2.2.2.1 t.2.2.2.2.2.2.2.1 t.2.2.2.2.2.2.2.2.1 t.2.2.2.2.2.2.2.2.2.1 t.2.2.2.2.2.2.2.2.2.2 | (.inr t)=>some t
def lL (h:(List S64)) (z:Int) (C:Int) (G:Bool) (H:Int) (I:Int) (J:Int) (S:Int) (U:Int) (X:Int):Option ((List S47)×Int×Int×Int×S67) :=
  some ([],0,0,X,(⟨(⟨h,z,C,G,H⟩:S58),(⟨I,J⟩:S26),S,U⟩:S67))
def nG (a0:S67) (a1:(List S47)):Option ((List S47)×Int×Int×Int×S67) :=
  (nS (some a0.f0)).bind fun z=>((z.2).bind fun h=>(if (z.1 != 0)=true then (some ([],0,0,z.1,(⟨h,a0.f1,a0.f2,a0.f3⟩:S67))) else (chk (1≤a0.f1.f0) ((chk (a1.length≤4611686018427387904∧1≤a0.f1.f0∧a0.f1.f0≤1073741824) (oT (fun s l=>fV s.1 s.2.1 s.2.2.1 s.2.2.2.1 s.2.2.2.2.1 s.2.2.2.2.2.1 s.2.2.2.2.2.2.1 s.2.2.2.2.2.2.2.1 s.2.2.2.2.2.2.2.2.1 s.2.2.2.2.2.2.2.2.2 l) (pcs a0.f1.f0.toNat a1) (h.f0,h.f1,h.f2,h.f3,h.f4,a0.f1.f0,a0.f1.f1,a0.f2,a0.f3,[]))).bind fun t=>match t with | .inl t=>lQ t.1 t.2.1 t.2.2.1 t.2.2.2.1 t.2.2.2.2.1 t.2.2.2.2.2.1 t.2.2.2.2.2.2.1 t.2.2.2.2.2.2.2.1 t.2.2.2.2.2.2.2.2.1 t.2.2.2.2.2.2.2.2.2 | .inr t=>lL t.1 t.2.1 t.2.2.1 t.2.2.2.1 t.2.2.2.2.1 t.2.2.2.2.2.1 t.2.2.2.2.2.2.1 t.2.2.2.2.2.2.2.1 t.2.2.2.2.2.2.2.2.1 t.2.2.2.2.2.2.2.2.2))))
def sD (h:((List S47)×Int×Int×Int×S67)) (z:(List S64)) (C:Int) (G:Int) (H:Bool) (I:Int):Option ((List S47)×Int×Int×Int×(Option S58)) :=
  some ([],0,0,h.2.2.2.1,some (⟨z,C,G,H,I⟩:S58))
def sY (a1:(List S47)) (a2:Int) (a3:S26) (C:S58):Option ((List S47)×Int×Int×Int×(Option S58)) :=
  (nG (⟨C,a3,a2,0⟩:S67) a1).bind fun h=>(if (h.2.2.2.1 != 0)=true then (if (h.2.2.2.1 != 9)=true then ((nS (some h.2.2.2.2.f0)).bind fun G=>((G.2).bind fun z=>(sD h z.f0 z.f1 z.f2 z.f3 z.f4))) else (sD h h.2.2.2.2.f0.f0 h.2.2.2.2.f0.f1 h.2.2.2.2.f0.f2 h.2.2.2.2.f0.f3 h.2.2.2.2.f0.f4)) else (some (h.1,h.2.1,h.2.2.1,0,some h.2.2.2.2.f0)))
def qF (a1:(List S47)) (a2:Int) (a3:S26) (h:S58):Option ((List S47)×Int×Int×Int×(Option S58)) :=
  sY a1 a2 a3 h
def iD (a1:(List S47)) (a2:Int) (z:S58) (h:Int):Option ((Int)⊕((Unit)⊕((List S47)×Int×Int×Int×(Option S58)))) :=
  if (decide (h<(a1.length:Int)))=true then ((at_ a1 h).bind fun C=>((uB C a2).bind fun G=>(if (!G)=true then (some (.inr (.inr ([],0,0,3,some z)))) else (ltt (IntKind.i64.wrap (h+1)) fun H=>(some (.inl (H))))))) else (some (.inr (.inl ())))
def kR (a1:(List S47)) (a2:Int) (a3:S26) (h:S58) (z:Bool):Option ((List S47)×Int×Int×Int×(Option S58)) :=
  if z=true then (some ([],0,0,1,some h)) else ((loop (fun s=>iD a1 a2 h s) (0)).bind fun t=>match t with | (.inl t)=>qF a1 a2 a3 h | (.inr t)=>some t)
def mA (a0:(Option S58)) (a1:(List S47)) (a2:Int) (a3:S26):Option ((List S47)×Int×Int×Int×(Option S58)) :=
  match a0 with | none=>(some ([],0,0,5,none)) | some h=>((mR a3).bind fun z=>(if (!z)=true then (kR a1 a2 a3 h true) else (if (decide (a2<1))=true then (kR a1 a2 a3 h true) else (kR a1 a2 a3 h (decide (8<a2))))))
end
end Go.Proofs.YtnefioccdkmegaaGreatDoor.M
