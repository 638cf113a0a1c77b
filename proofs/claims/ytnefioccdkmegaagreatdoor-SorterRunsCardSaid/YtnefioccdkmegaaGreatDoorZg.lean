/- Texts of the claim, joined: what it uses of Mes, Dr6, Mr6, Dmg. -/
import Derived.Test.YtnefioccdkmegaaGreatDoorZf
namespace Go.Proofs.YtnefioccdkmegaaGreatDoor.M
open Go Go.RowKit Go.Proofs.YtnefioccdkmegaaGreatDoor.E
set_option linter.unusedVariables false
set_option maxRecDepth 100000
set_option maxHeartbeats 4000000
set_option linter.unusedSimpArgs false
section
variable {r:World} {L:List HP} {w:World} {Z:Nat→Prop} {wz:World}
theorem sO {a0 a1 y} (G:nN a0 a1=some y) (X:SH r (L) w) :
  Ret Tryz.prog 58 #[.agg #[.int .u64 a0.f0,.int .i64 a0.f1,.int .i64 a0.f2,str a0.f3,.float .f64 a0.f4],.agg #[.int .u64 a1.f0,.int .i64 a1.f1,.int .i64 a1.f2,str a1.f3,.float .f64 a1.f4]] w fun v w'=>v=.bool y∧SH r (L) w':=by
 refine enter Tryz.func58 rfl Tryz.ntmps58 [(0,_),(1,_)] rfl (by simp) ?_
 intro U J Qf hQ hQn
 unfold nN at G
 refine ws fun a5 h=>nY J X (fun a6 U w X J=>?_) rfl
 refine nY J X (fun a7 U w X J=>?_) rfl
 refine x_m J rfl fun U J=>wn (h _ _ ?_)
 refine wp_seq_k fun a8 z=>aA fun a9 C=>ws fun b3 H=>aL tU J (fun U J=>?_) rfl
 refine aI uu9 (X.cell 1 rfl 3 _ rfl) J (fun U J=>?_) rfl
 refine aL tU J (fun U J=>?_) rfl
 refine aI uu9 (X.cell 0 rfl 3 _ rfl) J (fun U J=>?_) rfl
 refine x_v J (aJy rfl (J.ev rfl) (J.ev rfl)) rfl fun U J=>x_m J rfl fun U J=>wn (H _ _ ?_)
 refine bB J G rfl (fun I G=>?_) fun I G=>?_
 ·refine ws fun b4 S=>aL tU J (fun U J=>?_) rfl
  refine aI uu9 (X.cell 1 rfl 3 _ rfl) J (fun U J=>?_) rfl
  refine aL tU J (fun U J=>?_) rfl
  refine aI uu9 (X.cell 0 rfl 3 _ rfl) J (fun U J=>?_) rfl
  refine x_v J (aG6 rfl (J.ev rfl) (J.ev rfl)) rfl fun U J=>x_m J rfl fun U J=>wn (S _ _ ?_)
  replace X:=X.drop 0 |>.drop 0
  cases G
  refine wp_ret (hQ _ _ ?_)
  exact lv Tryz.results58 J rfl ⟨rfl,X⟩
 refine ws fun b5 Y=>aL jN J (fun U J=>?_) rfl
 refine aI uu2 (X.cell 1 rfl 2 _ rfl) J (fun U J=>?_) rfl
 refine aL jN J (fun U J=>?_) rfl
 refine aI uu2 (X.cell 0 rfl 2 _ rfl) J (fun U J=>?_) rfl
 refine nk 2 J rfl fun U J=>Y _ _ (bB J G rfl (fun a2 G=>?_) fun a2 G=>?_)
 ·refine ws fun b6 a3=>aL jN J (fun U J=>?_) rfl
  refine aI uu2 (X.cell 1 rfl 2 _ rfl) J (fun U J=>?_) rfl
  refine aL jN J (fun U J=>?_) rfl
  refine aI uu2 (X.cell 0 rfl 2 _ rfl) J (fun U J=>?_) rfl
  refine nk 2 J rfl fun U J=>?_
  replace X:=X.drop 0 |>.drop 0
  cases G
  refine a3 _ _ (wp_ret ?_)
  refine hQ _ _ (lv Tryz.results58 J rfl ?_)
  exact⟨rfl,X⟩
 refine wp_skip (C _ _ ?_)
 refine z _ _ (ws fun b7 a4=>?_)
 refine aL uX J (fun U J=>?_) rfl
 refine aI mD (X.cell 1 rfl 0 _ rfl) J (fun U J=>?_) rfl
 refine aL uX J (fun U J=>?_) rfl
 refine aI mD (X.cell 0 rfl 0 _ rfl) J (fun U J=>?_) rfl
 refine nk 2 J rfl fun U J=>?_
 replace X:=X.drop 0 |>.drop 0
 cases G
 refine a4 _ _ (wp_ret ?_)
 refine hQ _ _ (lv Tryz.results58 J rfl ?_)
 exact⟨rfl,X⟩
theorem rZ {a0 a1 y} (G:iZ a0 a1=some y) (X:SH r (L) w) :
  Ret Tryz.prog 57 #[.agg #[.int .u64 a0.f0,.int .i64 a0.f1,.int .i64 a0.f2,str a0.f3,.float .f64 a0.f4],.agg #[.int .u64 a1.f0,.int .i64 a1.f1,.int .i64 a1.f2,str a1.f3,.float .f64 a1.f4]] w fun v w'=>v=.int .i64 y∧SH r (L) w':=by
 refine enter Tryz.func57 rfl Tryz.ntmps57 [(0,_),(1,_)] rfl (by simp) ?_
 intro U J Qf hQ hQn
 unfold iZ at G
 refine ws fun a7 H=>nY J X (fun z U w X J=>?_) rfl
 refine nY J X (fun C U w X J=>?_) rfl
 refine x_m J rfl fun U J=>wn (H _ _ ?_)
 refine wp_seq_k fun a8 I=>aA fun a9 S=>ws fun b3 Y=>nF (ad:=⟨z,0,none⟩) (cs:=[.int .u64 a0.f0,.int .i64 a0.f1,.int .i64 a0.f2,str a0.f3,.float .f64 a0.f4]) mG cI (fun j u h=>by rw [nC,Nat.zero_add]; exact X.cell 1 rfl j u h) J (fun U J=>?_) rfl
 refine nF (ad:=⟨C,0,none⟩) (cs:=[.int .u64 a1.f0,.int .i64 a1.f1,.int .i64 a1.f2,str a1.f3,.float .f64 a1.f4]) mG cI (fun j u h=>by rw [nC,Nat.zero_add]; exact X.cell 0 rfl j u h) J (fun U J=>?_) rfl
 obtain⟨b4,a2,G⟩:=bnd G
 refine x_c aQu J rfl (sO a2 X :) fun v U w hR J=>?_
 obtain⟨rfl,X⟩:=hR
 refine x_m J rfl fun U J=>wn (Y _ _ ?_)
 refine bB J G rfl (fun a3 G=>?_) fun a3 G=>?_
 ·refine nz 1 J rfl fun U J=>?_
  replace X:=X.drop 0 |>.drop 0
  cases G
  refine wp_ret (hQ _ _ ?_)
  exact lv Tryz.results57 J rfl ⟨rfl,X⟩
 refine ws fun b5 a4=>nF (ad:=⟨C,0,none⟩) (cs:=[.int .u64 a1.f0,.int .i64 a1.f1,.int .i64 a1.f2,str a1.f3,.float .f64 a1.f4]) mG cI (fun j u h=>by rw [nC,Nat.zero_add]; exact X.cell 0 rfl j u h) J (fun U J=>?_) rfl
 refine nF (ad:=⟨z,0,none⟩) (cs:=[.int .u64 a0.f0,.int .i64 a0.f1,.int .i64 a0.f2,str a0.f3,.float .f64 a0.f4]) mG cI (fun j u h=>by rw [nC,Nat.zero_add]; exact X.cell 1 rfl j u h) J (fun U J=>?_) rfl
 obtain⟨b6,a5,G⟩:=bnd G
 refine x_c aQu J rfl (sO a5 X :) fun v U w hR J=>?_
 obtain⟨rfl,X⟩:=hR
 refine x_m J rfl fun U J=>wn (a4 _ _ ?_)
 refine bB J G rfl (fun a6 G=>?_) fun a6 G=>?_
 ·refine nz 1 J rfl fun U J=>?_
  replace X:=X.drop 0 |>.drop 0
  cases G
  refine wp_ret (hQ _ _ ?_)
  exact lv Tryz.results57 J rfl ⟨rfl,X⟩
 refine wp_skip (S _ _ ?_)
 refine I _ _ (nz 1 J rfl fun U J=>?_)
 replace X:=X.drop 0 |>.drop 0
 cases G
 refine wp_ret (hQ _ _ ?_)
 exact lv Tryz.results57 J rfl ⟨rfl,X⟩
theorem rJ {a0 A0 n0 c0 y} (G:fF a0=some y) (X:SH r (L) w) (ha0:RdL L k47 A0 n0 c0 a0) :
  Ret Tryz.prog 55 #[.slice A0 n0 c0] w fun v w'=>∃ (B0:Option Addr) (m0:Nat) (d0:Nat),v=.slice B0 m0 d0∧SH r (own k47 47 B0 m0 d0 y::L) w':=by
 refine enter Tryz.func55 rfl Tryz.ntmps55 [(0,_)] rfl (by simp) ?_
 intro U J Qf hQ hQn
 unfold fF at G
 refine nz 1 J rfl fun U J=>wp_seq_k fun a2 z=>ws fun a3 h=>xk 1 J rfl fun U J=>?_
 rcases A0 with _ | C
 ·replace G:=aVl (RdL.none_nil ha0 (X.sfx 0)) G
  refine x_v (v:=.bool true) J (aCk (p:=none) eT rfl (J.ev rfl) (J.ev rfl)) rfl fun U J=>wn (h _ _ ?_)
  refine c_t (b:=true) rfl J ?_ rfl
  refine nz 1 J rfl fun U J=>?_
  replace X:=SH.nil_own (d:=k47) (e:=47) X
  cases G
  refine wp_ret (hQ _ _ ?_)
  exact lv Tryz.results55 J rfl ⟨none,0,0,rfl,X⟩
 replace G:=aU8 G
 refine x_v (v:=.bool false) J (aCk (p:=some C) eT rfl (J.ev rfl) (J.ev rfl)) rfl fun U J=>wn (h _ _ ?_)
 refine c_f (b:=false) rfl J ?_ rfl
 refine wp_skip (z _ _ ?_)
 refine ws fun a4 H=>gV (d:=k47) (e:=47) (ps:=#[]) (cells:=[]) (xs:=[]) (fun w=>by kernel_rfl) rfl rfl J X (fun a5 U w X J=>?_) rfl
 refine x_m J rfl fun U J=>?_
 obtain⟨I,G⟩:=aB G
 have hr:=X.rdl 1 ha0 rfl
 refine gG 0 aB8 eT J X hr.1 hr.2.1 I rfl (fun S Y a1 U w X J=>?_) rfl
 rw [List.nil_append] at X
 refine x_m J rfl fun U J=>wn (H _ _ ?_)
 cases G
 refine wp_ret (hQ _ _ ?_)
 exact lv Tryz.results55 J rfl ⟨S,Y,a1,rfl,X⟩
theorem gH {a0 a1 a2 a3 A0 n0 c0 y} (G:bT a0 a1 a2 a3=some y) (X:SH r (own k47 47 A0 n0 c0 a0::L) w) :
  Ret Tryz.prog 136 #[.slice A0 n0 c0,.int .i64 a1,.int .i64 a2,.int .i64 a3,.func (.func 57) #[] #[]] w fun v w'=>v=.tuple #[]∧SH r (own k47 47 A0 n0 c0 y::L) w':=by
 refine enter Tryz.func136 rfl Tryz.ntmps136 [(0,_),(1,_),(2,_),(3,_),(4,_)] rfl (by simp) ?_
 intro U J Qf hQ hQn
 unfold bT at G
 refine nz 1 J rfl fun U J=>aA fun a4 a8=>?_
 have hb1:∀Y,fW Y=some y→∀U w,FR 38 [] U [(0,.slice A0 n0 c0),(4,.func (.func 57) #[] #[])]→SH r (own k47 47 A0 n0 c0 Y::L) w→a4 U w:=by
  intro Y G U w J X
  unfold fW at G
  cases G
  refine a8 _ _ (hQn _ _ ?_)
  exact aB1 Tryz.results136 J ⟨rfl,X⟩
 obtain⟨a9,b3,G⟩:=bnd G
 have b4:∀I,(I)=a9→∀U w,FR 38 [] U [(0,.slice A0 n0 c0),(4,.func (.func 57) #[] #[])]→SH r (own k47 47 A0 n0 c0 I::L) w→a4 U w:=by
  intro I ht U w J X
  subst ht
  replace G:fI I=some y:=G
  unfold fI at G
  exact hb1 I G U w (J.sub _ rfl) X
 refine aD b3 (fun s U w=>FR 38 [] U [(0,.slice A0 n0 c0),(1,.int .i64 a1),(2,.int .i64 a2),(3,.int .i64 a3),(4,.func (.func 57) #[] #[]),(10,.int .i64 s.2)]∧SH r (own k47 47 A0 n0 c0 s.1::L) w) ⟨J.sub _ rfl,X⟩ ?_
 intro c8 b5 b6 G b7 b8 U w hLab
 obtain⟨a5,H⟩:=b5
 replace G:aZ a1 a2 a3 a5 H=some b6:=G
 unfold aZ at G
 try dsimp only at hLab
 obtain⟨J,X⟩:=hLab
 refine wp_seq_k fun c9 b9=>nz 3 J rfl fun U J=>bB J G rfl (fun c3 G=>?_) fun c3 G=>?_
 ·refine wp_skip (b9 _ _ ?_)
  refine wp_seq_k fun d0 c4=>aA fun d1 c5=>cN [0,0,0,6,0,0,0,96,0,0,0,1536,3840,7936,0,0,0,98304,245760,507904,1048335,2096911,4194303,8388607] [21,23] rfl J X (by kernel_rfl) (by kernel_rfl) (by kernel_rfl) (by kernel_rfl) fun w X=>?_
  obtain⟨z,a6,G⟩:=bnd G
  obtain⟨cs,hV,c6⟩:=el (X.rd 0 rfl) a6
  obtain rfl:=hV
  obtain⟨C,S,G⟩:=bnd G
  obtain⟨cs,hV,c7⟩:=el (X.rd 0 rfl) S
  obtain rfl:=hV
  refine⟨[(0,.slice A0 n0 c0),(1,.int .i64 a1),(2,.int .i64 H),(3,.int .i64 (IntKind.i64.wrap (a1+H))),(4,.slice A0 n0 c0),(5,.int .i64 a2),(6,.int .i64 H),(7,.int .i64 (IntKind.i64.wrap (a2+H))),(8,.slice A0 n0 c0),(9,.int .i64 a2),(10,.int .i64 H),(11,.int .i64 (IntKind.i64.wrap (a2+H))),(12,.pointer (some (ea A0 ((IntKind.i64.wrap (a2+H)).toNat * 5)))),(13,.agg #[.int .u64 z.f0,.int .i64 z.f1,.int .i64 z.f2,str z.f3,.float .f64 z.f4]),(14,.slice A0 n0 c0),(15,.int .i64 a1),(16,.int .i64 H),(17,.int .i64 (IntKind.i64.wrap (a1+H))),(18,.pointer (some (ea A0 ((IntKind.i64.wrap (a1+H)).toNat * 5)))),(19,.agg #[.int .u64 C.f0,.int .i64 C.f1,.int .i64 C.f2,str C.f3,.float .f64 C.f4]),(20,.pointer (some (ea A0 ((IntKind.i64.wrap (a1+H)).toNat * 5))))],?_⟩
  refine dF [0,1,2,3,4,5,6,7,8,9,10,11,12,13,14,15,16,17,18,19,20] [21] (by kernel_rfl) ⟨pm rfl,pm rfl,pm rfl,pt [(17,_),(18,_)] rfl (fun U J=>iR rfl (J.ev rfl) (J.ev rfl)),pm rfl,pm rfl,pm rfl,pt [(21,_),(22,_)] rfl (fun U J=>iR rfl (J.ev rfl) (J.ev rfl)),pm rfl,pm rfl,pm rfl,pt [(25,_),(26,_)] rfl (fun U J=>iR rfl (J.ev rfl) (J.ev rfl)),pt [(24,_),(27,_)] rfl (fun U J=>fH eT cI (X.rd 0 rfl) a6 J rfl rfl rfl),pt [(28,_)] rfl (fun U J=>nJ (cs:=[.int .u64 z.f0,.int .i64 z.f1,.int .i64 z.f2,str z.f3,.float .f64 z.f4]) mG cI (fun j u h=>by rw [fG]; exact c6 _ _ h) J rfl rfl rfl),pm rfl,pm rfl,pm rfl,pt [(31,_),(32,_)] rfl (fun U J=>iR rfl (J.ev rfl) (J.ev rfl)),pt [(30,_),(33,_)] rfl (fun U J=>fH eT cI (X.rd 0 rfl) S J rfl rfl rfl),pt [(34,_)] rfl (fun U J=>nJ (cs:=[.int .u64 C.f0,.int .i64 C.f1,.int .i64 C.f2,str C.f3,.float .f64 C.f4]) mG cI (fun j u h=>by rw [fG]; exact c7 _ _ h) J rfl rfl rfl),pt [(16,_),(19,_)] rfl (fun U J=>fH eT cI (X.rd 0 rfl) S J rfl rfl rfl),trivial⟩ ⟨et [(29,_),(36,_)] rfl (fun U J K hK=>?_),trivial⟩
  refine xE (z':=z) (off:=0) (vs:=[.int .u64 z.f0,.int .i64 z.f1,.int .i64 z.f2,str z.f3,.float .f64 z.f4]) 0 cI J X rfl (dQ S).2.2 (fun c h=>by cases h; rfl) (fun  w X=>?_) rfl rfl rfl rfl rfl rfl
  obtain⟨d2,a7,G⟩:=bnd G
  refine hK _ [(22,.pointer (some (ea A0 ((IntKind.i64.wrap (a2+H)).toNat * 5))))] _ rfl (dF [4,5,6,7,22] [23] (by kernel_rfl) ⟨pm rfl,pm rfl,pm rfl,pt [(21,_),(22,_)] rfl (fun U J=>iR rfl (J.ev rfl) (J.ev rfl)),pt [(20,_),(23,_)] rfl (fun U J=>fH eT cI (X.rd 0 rfl) a7 J rfl rfl rfl),trivial⟩ ⟨et [(35,_),(37,_)] rfl (fun U J K hK=>?_),trivial⟩)
  refine xE (z':=C) (off:=0) (vs:=[.int .u64 C.f0,.int .i64 C.f1,.int .i64 C.f2,str C.f3,.float .f64 C.f4]) 0 cI J X rfl (dQ a7).2.2 (fun c h=>by cases h; rfl) (fun  w X=>?_) rfl rfl rfl rfl rfl rfl
  refine hK _ [] _ rfl (gM [] (by kernel_rfl) trivial ⟨by kernel_rfl,by kernel_rfl⟩ [(0,_),(1,_),(2,_),(3,_),(4,_),(10,_)] rfl (fun U J=>?_))
  refine c5 _ _ (c4 _ _ ?_)
  refine aC (nk 3 J rfl fun U J=>?_)
  cases G
  exact⟨_,b7 _ rfl,J.sub _ rfl,X⟩
 cases G
 exact wp_exit (b4 a5 (b8 _ rfl) U w (J.sub _ rfl) X)
theorem sC {a0 a1 a2 a3 A0 n0 c0 y} (G:eF a0 a1 a2 a3=some y) (X:SH r (own k47 47 A0 n0 c0 a0::L) w) :
  Ret Tryz.prog 118 #[.slice A0 n0 c0,.int .i64 a1,.int .i64 a2,.int .i64 a3,.func (.func 57) #[] #[]] w fun v w'=>v=.tuple #[]∧SH r (own k47 47 A0 n0 c0 y::L) w':=by
 refine enter Tryz.func118 rfl Tryz.ntmps118 [(0,_),(1,_),(2,_),(3,_),(4,_)] rfl (by simp) ?_
 intro U J Qf hQ hQn
 unfold eF at G
 refine nz 4 J rfl fun U J=>nz 4 J rfl fun U J=>wp_seq_k fun d5 a9=>aA fun a6 b3=>?_
 have hb1:∀I S,eX a2 I S=some y→∀U w,FR 58 [] U [(0,.slice A0 n0 c0),(2,.int .i64 a2),(4,.func (.func 57) #[] #[]),(10,.int .i64 S)]→SH r (own k47 47 A0 n0 c0 I::L) w→a6 U w:=by
  intro I S G U w J X
  unfold eX at G
  refine b3 _ _ (a9 _ _ ?_)
  refine aC (xk 7 J rfl fun U J=>?_)
  obtain⟨d6,b4,G⟩:=bnd G
  refine x_c aR2 J rfl (gH b4 X :) fun v U w hR J=>?_
  obtain⟨rfl,X⟩:=hR
  refine wpList_nil ?_
  cases G
  refine hQn _ _ (aB1 Tryz.results118 J ?_)
  exact⟨rfl,X⟩
 obtain⟨b5,b6,G⟩:=bnd G
 have b7:∀h z,(h,z)=b5→∀U w,FR 58 [] U [(0,.slice A0 n0 c0),(2,.int .i64 a2),(4,.func (.func 57) #[] #[]),(10,.int .i64 z)]→SH r (own k47 47 A0 n0 c0 h::L) w→a6 U w:=by
  intro h z ht U w J X
  subst ht
  replace G:eL a2 h z=some y:=G
  unfold eL at G
  exact hb1 h z G U w (J.sub _ rfl) X
 refine aD b6 (fun s U w=>FR 58 [] U [(0,.slice A0 n0 c0),(2,.int .i64 a2),(4,.func (.func 57) #[] #[]),(10,.int .i64 s.2.1),(11,.int .i64 s.2.2)]∧SH r (own k47 47 A0 n0 c0 s.1::L) w) ⟨J.sub _ rfl,X⟩ ?_
 intro d7 b8 a7 G b9 c3 U w hLab
 obtain⟨a8,C,H⟩:=b8
 replace G:bV a2 a8 C H=some a7:=G
 unfold bV at G
 try dsimp only at hLab
 obtain⟨J,X⟩:=hLab
 refine wp_seq_k fun d8 c4=>nz 3 J rfl fun U J=>bB J G rfl (fun c5 G=>?_) fun c5 G=>?_
 ·refine wp_skip (c4 _ _ ?_)
  refine aA fun c6 c7=>?_
  have hb2:∀Y a4 a5,dL Y a4 a5=some a7→∀U w,FR 58 [] U [(0,.slice A0 n0 c0),(2,.int .i64 a2),(4,.func (.func 57) #[] #[]),(10,.int .i64 a4),(11,.int .i64 a5)]→SH r (own k47 47 A0 n0 c0 Y::L) w→c6 U w:=by
   intro Y a4 a5 G U w J X
   unfold dL at G
   cases G
   exact c7 _ _ ⟨_,b9 _ rfl,J.sub _ rfl,X⟩
  refine nz 3 J rfl fun U J=>bB J G rfl (fun c8 G=>?_) fun c8 G=>?_
  ·refine ws fun d9 c9=>xk 7 J rfl fun U J=>?_
   obtain⟨d0,d1,G⟩:=bnd G
   refine x_c aR2 J rfl (gH d1 X :) fun v U w hR J=>?_
   obtain⟨rfl,X⟩:=hR
   refine wn (c9 _ _ ?_)
   refine aC (nk 4 J rfl fun U J=>?_)
   exact hb2 d0 (IntKind.i64.wrap (C - H)) H G U w (J.sub _ rfl) X
  refine ws fun e0 d2=>xk 11 J rfl fun U J=>?_
  obtain⟨d3,d4,G⟩:=bnd G
  refine x_c aR2 J rfl (gH d4 X :) fun v U w hR J=>?_
  obtain⟨rfl,X⟩:=hR
  refine wn (d2 _ _ ?_)
  refine aC (nk 4 J rfl fun U J=>?_)
  exact hb2 d3 C (IntKind.i64.wrap (H - C)) G U w (J.sub _ rfl) X
 cases G
 exact wp_exit (b7 a8 C (c3 _ rfl) U w (J.sub _ rfl) X)
end
theorem rA (rec_:(List S47)→Int→Int→Int→Option ((List S47))) (hrec:∀ {r:World} {L:List HP} {w:World} (a0:(List S47)) (a1:Int) (a2:Int) (a3:Int) (A0:Option Addr) (n0:Nat) (c0:Nat) {y:((List S47))} (G:rec_ a0 a1 a2 a3=some y) (X:SH r (own k47 47 A0 n0 c0 a0::L) w),Ret Tryz.prog 94 #[.slice A0 n0 c0,.int .i64 a1,.int .i64 a2,.int .i64 a3,.func (.func 57) #[] #[]] w fun v w'=>v=.tuple #[]∧SH r (own k47 47 A0 n0 c0 y::L) w') {r:World} {L:List HP} {w:World} (a0:(List S47)) (a1:Int) (a2:Int) (a3:Int) (A0:Option Addr) (n0:Nat) (c0:Nat) {y:((List S47))} (G:aU rec_ a0 a1 a2 a3=some y) (X:SH r (own k47 47 A0 n0 c0 a0::L) w) :
  Ret Tryz.prog 94 #[.slice A0 n0 c0,.int .i64 a1,.int .i64 a2,.int .i64 a3,.func (.func 57) #[] #[]] w fun v w'=>v=.tuple #[]∧SH r (own k47 47 A0 n0 c0 y::L) w':=by
 refine enter Tryz.func94 rfl Tryz.ntmps94 [(0,.slice A0 n0 c0),(1,.int .i64 a1),(2,.int .i64 a2),(3,.int .i64 a3),(4,.func (.func 57) #[] #[])] rfl (by simp) ?_
 intro U J Qf hQ hQn
 unfold aU at G
 refine wp_seq_k fun v3 j2=>?_
 refine ws fun v4 j3=>?_
 refine x_m J rfl fun U J=>?_
 refine x_m J rfl fun U J=>?_
 refine x_v J (oY rfl (J.ev rfl) (J.ev rfl)) rfl fun U J=>?_
 refine x_v J (aHa rfl (J.ev rfl) (J.ev rfl)) rfl fun U J=>?_
 refine wn (j3 _ _ ?_)
 refine zJ J rfl (fun d9=>?_) fun d9=>?_
 ·replace G:=ift d9 G
  refine ws fun v5 j4=>?_
  refine x_m J rfl fun U J=>?_
  refine x_m J rfl fun U J=>?_
  refine wn (j4 _ _ ?_)
  refine ws fun v6 j5=>?_
  refine x_m J rfl fun U J=>?_
  refine x_m J rfl fun U J=>?_
  refine wn (j5 _ _ ?_)
  refine wp_seq_k fun v7 j6=>?_
  refine aA fun h2 j7=>?_
  have hb1:∀ (c7:Int),eN a0 a1 c7=some y→∀ (U:Act) (w:World),FR 220 [] U [(0,.slice A0 n0 c0),(1,.int .i64 a1),(4,.func (.func 57) #[] #[]),(10,.int .i64 c7)]→SH r (own k47 47 A0 n0 c0 a0::L) w→h2 U w:=by
   intro c7 G U w J X
   unfold eN at G
   refine j7 _ _ ?_
   refine j6 _ _ ?_
   refine wp_seq_k fun v8 j8=>?_
   refine ws fun v9 j9=>?_
   refine x_m J rfl fun U J=>?_
   refine x_m J rfl fun U J=>?_
   refine wn (j9 _ _ ?_)
   refine aA fun h3 k0=>?_
   have hb2:∀ (e0:(List S47)),eO e0=some y→∀ (U:Act) (w:World),FR 220 [] U [(0,.slice A0 n0 c0),(4,.func (.func 57) #[] #[])]→SH r (own k47 47 A0 n0 c0 e0::L) w→h3 U w:=by
    intro e0 G U w J X
    unfold eO at G
    refine k0 _ _ ?_
    refine j8 _ _ ?_
    refine wp_ret ?_
    cases G
    refine hQ _ _ ?_
    refine lv0 Tryz.results94 J ?_
    exact⟨rfl,X⟩
   obtain⟨k1,k2,G⟩:=bnd G
   have k3:∀ (d0:(List S47)),(d0)=k1→∀ (U:Act) (w:World),FR 220 [] U [(0,.slice A0 n0 c0),(4,.func (.func 57) #[] #[])]→SH r (own k47 47 A0 n0 c0 d0::L) w→h3 U w:=by
    intro d0 ht U w J X
    subst ht
    replace G:dU d0=some y:=G
    unfold dU at G
    exact hb2 d0 G U w (J.sub _ rfl) X
   refine aD k2 (fun s U w=>FR 220 [] U [(0,.slice A0 n0 c0),(4,.func (.func 57) #[] #[]),(10,.int .i64 c7),(13,.int .i64 s.2)]∧SH r (own k47 47 A0 n0 c0 s.1::L) w) ⟨J.sub _ rfl,X⟩ ?_
   intro w0 k4 k5 G k6 k7 U w hLab
   obtain⟨h4,C⟩:=k4
   replace G:aR c7 h4 C=some k5:=G
   unfold aR at G
   try dsimp only at hLab
   obtain⟨J,X⟩:=hLab
   refine wp_seq_k fun w1 k8=>?_
   refine ws fun w2 k9=>?_
   refine x_m J rfl fun U J=>?_
   refine x_m J rfl fun U J=>?_
   refine x_v J (oY rfl (J.ev rfl) (J.ev rfl)) rfl fun U J=>?_
   refine x_v J (rB rfl (J.ev rfl) (J.ev rfl)) rfl fun U J=>?_
   refine wn (k9 _ _ ?_)
   refine zJ J rfl (fun e1=>?_) fun e1=>?_
   ·replace G:=ift e1 G
    refine wp_skip ?_
    refine k8 _ _ ?_
    refine wp_seq_k fun w3 l0=>?_
    refine aA fun w4 l1=>?_
    refine cN [0,0,0,0,8,0,0,64,224,480,0,0,3072,7168,16355,32739,65535,131071] [15,17] rfl J X (by kernel_rfl) (by kernel_rfl) (by kernel_rfl) (by kernel_rfl) fun w X=>?_
    obtain⟨I,h5,G⟩:=bnd G
    obtain⟨cs,hV,l2⟩:=el (X.rd 0 rfl) h5
    obtain rfl:=hV
    obtain⟨S,d7,G⟩:=bnd G
    obtain⟨cs,hV,l3⟩:=el (X.rd 0 rfl) d7
    obtain rfl:=hV
    refine⟨[(0,.slice A0 n0 c0),(1,.int .i64 C),(2,.slice A0 n0 c0),(3,.int .i64 C),(4,.int .i64 (IntKind.i64.wrap (C+1))),(5,.slice A0 n0 c0),(6,.int .i64 C),(7,.int .i64 (IntKind.i64.wrap (C+1))),(8,.pointer (some (ea A0 ((IntKind.i64.wrap (C+1)).toNat * 5)))),(9,.agg #[.int .u64 I.f0,.int .i64 I.f1,.int .i64 I.f2,str I.f3,.float .f64 I.f4]),(10,.slice A0 n0 c0),(11,.int .i64 C),(12,.pointer (some (ea A0 (C.toNat * 5)))),(13,.agg #[.int .u64 S.f0,.int .i64 S.f1,.int .i64 S.f2,str S.f3,.float .f64 S.f4]),(14,.pointer (some (ea A0 (C.toNat * 5))))],?_⟩
    refine dF [0,1,2,3,4,5,6,7,8,9,10,11,12,13,14] [15] (by kernel_rfl) ⟨pm rfl,pm rfl,pm rfl,pm rfl,pt [(64,.int .i64 C)] rfl (fun U J=>iR rfl (J.ev rfl) (J.ev rfl)),pm rfl,pm rfl,pt [(67,.int .i64 C)] rfl (fun U J=>iR rfl (J.ev rfl) (J.ev rfl)),pt [(66,.slice A0 n0 c0),(68,.int .i64 (IntKind.i64.wrap (C+1)))] rfl (fun U J=>fH eT cI (X.rd 0 rfl) h5 J rfl rfl rfl),pt [(69,.pointer (some (ea A0 ((IntKind.i64.wrap (C+1)).toNat * 5))))] rfl (fun U J=>nJ (cs:=[.int .u64 I.f0,.int .i64 I.f1,.int .i64 I.f2,str I.f3,.float .f64 I.f4]) mG cI (fun j u h=>by rw [fG]; exact l2 _ _ h) J rfl rfl rfl),pm rfl,pm rfl,pt [(71,.slice A0 n0 c0),(72,.int .i64 C)] rfl (fun U J=>fH eT cI (X.rd 0 rfl) d7 J rfl rfl rfl),pt [(73,.pointer (some (ea A0 (C.toNat * 5))))] rfl (fun U J=>nJ (cs:=[.int .u64 S.f0,.int .i64 S.f1,.int .i64 S.f2,str S.f3,.float .f64 S.f4]) mG cI (fun j u h=>by rw [fG]; exact l3 _ _ h) J rfl rfl rfl),pt [(61,.slice A0 n0 c0),(62,.int .i64 C)] rfl (fun U J=>fH eT cI (X.rd 0 rfl) d7 J rfl rfl rfl),trivial⟩ ⟨et [(70,.agg #[.int .u64 I.f0,.int .i64 I.f1,.int .i64 I.f2,str I.f3,.float .f64 I.f4]),(75,.pointer (some (ea A0 (C.toNat * 5))))] rfl (fun U J K hK=>?_),trivial⟩
    refine xE (z':=I) (off:=0) (vs:=[.int .u64 I.f0,.int .i64 I.f1,.int .i64 I.f2,str I.f3,.float .f64 I.f4]) 0 cI J X rfl (dQ d7).2.2 (fun c h=>by cases h; rfl) (fun  w X=>?_) rfl rfl rfl rfl rfl rfl
    obtain⟨w5,h6,G⟩:=bnd G
    refine hK _ [(16,.pointer (some (ea A0 ((IntKind.i64.wrap (C+1)).toNat * 5))))] _ rfl ?_
    refine dF [2,3,4,16] [17] (by kernel_rfl) ⟨pm rfl,pm rfl,pt [(64,.int .i64 C)] rfl (fun U J=>iR rfl (J.ev rfl) (J.ev rfl)),pt [(63,.slice A0 n0 c0),(65,.int .i64 (IntKind.i64.wrap (C+1)))] rfl (fun U J=>fH eT cI (X.rd 0 rfl) h6 J rfl rfl rfl),trivial⟩ ⟨et [(74,.agg #[.int .u64 S.f0,.int .i64 S.f1,.int .i64 S.f2,str S.f3,.float .f64 S.f4]),(76,.pointer (some (ea A0 ((IntKind.i64.wrap (C+1)).toNat * 5))))] rfl (fun U J K hK=>?_),trivial⟩
    refine xE (z':=S) (off:=0) (vs:=[.int .u64 S.f0,.int .i64 S.f1,.int .i64 S.f2,str S.f3,.float .f64 S.f4]) 0 cI J X rfl (dQ h6).2.2 (fun c h=>by cases h; rfl) (fun  w X=>?_) rfl rfl rfl rfl rfl rfl
    refine hK _ [] _ rfl ?_
    refine gM [] (by kernel_rfl) trivial ⟨by kernel_rfl,by kernel_rfl⟩ [(0,.slice A0 n0 c0),(4,.func (.func 57) #[] #[]),(10,.int .i64 c7),(13,.int .i64 C)] rfl (fun U J=>?_)
    refine l1 _ _ ?_
    refine l0 _ _ ?_
    refine aC ?_
    refine x_m J rfl fun U J=>?_
    refine x_v J (iR rfl (J.ev rfl) (J.ev rfl)) rfl fun U J=>?_
    refine x_m J rfl fun U J=>?_
    refine wpList_nil ?_
    cases G
    exact⟨_,k6 _ rfl,J.sub _ rfl,X⟩
   replace G:=xM e1 G
   refine wp_exit ?_
   cases G
   exact k3 h4 (k7 _ rfl) U w (J.sub _ rfl) X
  obtain⟨l4,l5,G⟩:=bnd G
  have l6:∀ (d1:Int),(d1)=l4→∀ (U:Act) (w:World),FR 220 [] U [(0,.slice A0 n0 c0),(1,.int .i64 a1),(4,.func (.func 57) #[] #[]),(10,.int .i64 d1)]→SH r (own k47 47 A0 n0 c0 a0::L) w→h2 U w:=by
   intro d1 ht U w J X
   subst ht
   replace G:dX a0 a1 d1=some y:=G
   unfold dX at G
   exact hb1 d1 G U w (J.sub _ rfl) X
  refine aD l5 (fun s U w=>FR 220 [] U [(0,.slice A0 n0 c0),(1,.int .i64 a1),(4,.func (.func 57) #[] #[]),(10,.int .i64 s.1),(11,.int .i64 s.2)]∧SH r (own k47 47 A0 n0 c0 a0::L) w) ⟨J.sub _ rfl,X⟩ ?_
  intro w6 l7 h7 G l8 l9 U w hLab
  obtain⟨b6,b8⟩:=l7
  replace G:bC a0 a1 b6 b8=some h7:=G
  unfold bC at G
  try dsimp only at hLab
  obtain⟨J,X⟩:=hLab
  refine wp_seq_k fun w7 m0=>?_
  refine ws fun w8 m1=>?_
  refine x_m J rfl fun U J=>?_
  refine x_m J rfl fun U J=>?_
  refine x_v J (rB rfl (J.ev rfl) (J.ev rfl)) rfl fun U J=>?_
  refine wn (m1 _ _ ?_)
  refine zJ J rfl (fun e2=>?_) fun e2=>?_
  ·replace G:=ift e2 G
   refine wp_skip ?_
   refine m0 _ _ ?_
   refine aA fun m2 m3=>?_
   have hb3:∀ (e3:Int) (e4:Int),cW e3 e4=some h7→∀ (U:Act) (w:World),FR 220 [] U [(0,.slice A0 n0 c0),(1,.int .i64 a1),(4,.func (.func 57) #[] #[]),(10,.int .i64 e3),(11,.int .i64 e4)]→SH r (own k47 47 A0 n0 c0 a0::L) w→m2 U w:=by
    intro e3 e4 G U w J X
    unfold cW at G
    refine m3 _ _ ?_
    cases G
    exact⟨_,l8 _ rfl,J.sub _ rfl,X⟩
   refine ws fun w9 m4=>?_
   refine x_m J rfl fun U J=>?_
   refine x_m J rfl fun U J=>?_
   refine x_v J (iR rfl (J.ev rfl) (J.ev rfl)) rfl fun U J=>?_
   refine x_v J (aS uu3 aEa rfl (J.ev rfl)) rfl fun U J=>?_
   refine x_v J (qW rfl (J.ev rfl) (J.ev rfl) (by decide)) rfl fun U J=>?_
   refine x_v J (aS aEa uu3 rfl (J.ev rfl)) rfl fun U J=>?_
   refine x_m J rfl fun U J=>?_
   refine wn (m4 _ _ ?_)
   refine wp_seq_k fun x0 m5=>?_
   refine cN [0,0,0,6,14,0,0,96,224,511,1023] [9] rfl J X (by kernel_rfl) (by kernel_rfl) (by kernel_rfl) (by kernel_rfl) fun w X=>?_
   obtain⟨a5,h8,G⟩:=bnd G
   obtain⟨cs,hV,m6⟩:=el (X.rd 0 rfl) h8
   obtain rfl:=hV
   obtain⟨a6,h9,G⟩:=bnd G
   obtain⟨cs,hV,m7⟩:=el (X.rd 0 rfl) h9
   obtain rfl:=hV
   refine⟨[(0,.func (.func 57) #[] #[]),(1,.slice A0 n0 c0),(2,.int .i64 (IntKind.i64.wrap (bS .u64 (IntKind.u64.wrap (IntKind.i64.wrap (b6+b8))) 1))),(3,.pointer (some (ea A0 ((IntKind.i64.wrap (bS .u64 (IntKind.u64.wrap (IntKind.i64.wrap (b6+b8))) 1)).toNat * 5)))),(4,.agg #[.int .u64 a5.f0,.int .i64 a5.f1,.int .i64 a5.f2,str a5.f3,.float .f64 a5.f4]),(5,.slice A0 n0 c0),(6,.int .i64 a1),(7,.pointer (some (ea A0 (a1.toNat * 5)))),(8,.agg #[.int .u64 a6.f0,.int .i64 a6.f1,.int .i64 a6.f2,str a6.f3,.float .f64 a6.f4])],?_⟩
   refine dF [0,1,2,3,4,5,6,7,8] [9] (by kernel_rfl) ⟨pm rfl,pm rfl,pm rfl,pt [(41,.slice A0 n0 c0),(42,.int .i64 (IntKind.i64.wrap (bS .u64 (IntKind.u64.wrap (IntKind.i64.wrap (b6+b8))) 1)))] rfl (fun U J=>fH eT cI (X.rd 0 rfl) h8 J rfl rfl rfl),pt [(43,.pointer (some (ea A0 ((IntKind.i64.wrap (bS .u64 (IntKind.u64.wrap (IntKind.i64.wrap (b6+b8))) 1)).toNat * 5))))] rfl (fun U J=>nJ (cs:=[.int .u64 a5.f0,.int .i64 a5.f1,.int .i64 a5.f2,str a5.f3,.float .f64 a5.f4]) mG cI (fun j u h=>by rw [fG]; exact m6 _ _ h) J rfl rfl rfl),pm rfl,pm rfl,pt [(45,.slice A0 n0 c0),(46,.int .i64 a1)] rfl (fun U J=>fH eT cI (X.rd 0 rfl) h9 J rfl rfl rfl),pt [(47,.pointer (some (ea A0 (a1.toNat * 5))))] rfl (fun U J=>nJ (cs:=[.int .u64 a6.f0,.int .i64 a6.f1,.int .i64 a6.f2,str a6.f3,.float .f64 a6.f4]) mG cI (fun j u h=>by rw [fG]; exact m7 _ _ h) J rfl rfl rfl),trivial⟩ ⟨et [(40,.func (.func 57) #[] #[]),(44,.agg #[.int .u64 a5.f0,.int .i64 a5.f1,.int .i64 a5.f2,str a5.f3,.float .f64 a5.f4]),(48,.agg #[.int .u64 a6.f0,.int .i64 a6.f1,.int .i64 a6.f2,str a6.f3,.float .f64 a6.f4])] rfl (fun U J K hK=>?_),trivial⟩
   obtain⟨e5,m8,G⟩:=bnd G
   refine aBw (vs:=#[.agg #[.int .u64 a5.f0,.int .i64 a5.f1,.int .i64 a5.f2,str a5.f3,.float .f64 a5.f4],.agg #[.int .u64 a6.f0,.int .i64 a6.f1,.int .i64 a6.f2,str a6.f3,.float .f64 a6.f4]]) aTf J (rZ m8 X :) (fun v w hR=>?_) rfl
   obtain⟨rfl,X⟩:=hR
   refine hK _ [(10,.bool (decide (e5<0)))] _ rfl ?_
   refine gM [10] (by kernel_rfl) ⟨pt [(49,.int .i64 e5)] rfl (fun U J=>rB rfl (J.ev rfl) (J.ev rfl)),trivial⟩ ⟨by kernel_rfl,by kernel_rfl⟩ [(0,.slice A0 n0 c0),(1,.int .i64 a1),(4,.func (.func 57) #[] #[]),(10,.int .i64 b6),(11,.int .i64 b8),(12,.int .i64 (IntKind.i64.wrap (bS .u64 (IntKind.u64.wrap (IntKind.i64.wrap (b6+b8))) 1))),(50,.bool (decide (e5<0)))] rfl (fun U J=>?_)
   refine m5 _ _ ?_
   refine zJ J rfl (fun e6=>?_) fun e6=>?_
   ·replace G:=ift e6 G
    refine aC ?_
    refine x_m J rfl fun U J=>?_
    refine x_v J (iR rfl (J.ev rfl) (J.ev rfl)) rfl fun U J=>?_
    refine x_m J rfl fun U J=>?_
    refine wpList_nil ?_
    exact hb3 (IntKind.i64.wrap ((IntKind.i64.wrap (bS .u64 (IntKind.u64.wrap (IntKind.i64.wrap (b6+b8))) 1))+1)) b8 G U w (J.sub _ rfl) X
   replace G:=xM e6 G
   refine aC ?_
   refine x_m J rfl fun U J=>?_
   refine x_m J rfl fun U J=>?_
   refine wpList_nil ?_
   exact hb3 b6 (IntKind.i64.wrap (bS .u64 (IntKind.u64.wrap (IntKind.i64.wrap (b6+b8))) 1)) G U w (J.sub _ rfl) X
  replace G:=xM e2 G
  refine wp_exit ?_
  cases G
  exact l6 b6 (l9 _ rfl) U w (J.sub _ rfl) X
 replace G:=xM d9 G
 refine wp_skip ?_
 refine j2 _ _ ?_
 refine wp_seq_k fun x1 m9=>?_
 refine ws fun x2 n3=>?_
 refine x_m J rfl fun U J=>?_
 refine x_m J rfl fun U J=>?_
 refine x_v J (oY rfl (J.ev rfl) (J.ev rfl)) rfl fun U J=>?_
 refine x_v J (aHa rfl (J.ev rfl) (J.ev rfl)) rfl fun U J=>?_
 refine wn (n3 _ _ ?_)
 refine zJ J rfl (fun e7=>?_) fun e7=>?_
 ·replace G:=ift e7 G
  refine ws fun x3 n4=>?_
  refine x_m J rfl fun U J=>?_
  refine x_m J rfl fun U J=>?_
  refine wn (n4 _ _ ?_)
  refine ws fun x4 n5=>?_
  refine x_m J rfl fun U J=>?_
  refine x_m J rfl fun U J=>?_
  refine wn (n5 _ _ ?_)
  refine wp_seq_k fun x5 n6=>?_
  refine aA fun i0 n7=>?_
  have hb4:∀ (c8:Int),eP a0 a2 c8=some y→∀ (U:Act) (w:World),FR 220 [] U [(0,.slice A0 n0 c0),(2,.int .i64 a2),(4,.func (.func 57) #[] #[]),(14,.int .i64 c8)]→SH r (own k47 47 A0 n0 c0 a0::L) w→i0 U w:=by
   intro c8 G U w J X
   unfold eP at G
   refine n7 _ _ ?_
   refine n6 _ _ ?_
   refine wp_seq_k fun x6 n8=>?_
   refine ws fun x7 n9=>?_
   refine x_m J rfl fun U J=>?_
   refine x_m J rfl fun U J=>?_
   refine wn (n9 _ _ ?_)
   refine aA fun i1 o0=>?_
   have hb5:∀ (e8:(List S47)),eJ e8=some y→∀ (U:Act) (w:World),FR 220 [] U [(0,.slice A0 n0 c0),(4,.func (.func 57) #[] #[])]→SH r (own k47 47 A0 n0 c0 e8::L) w→i1 U w:=by
    intro e8 G U w J X
    unfold eJ at G
    refine o0 _ _ ?_
    refine n8 _ _ ?_
    refine wp_ret ?_
    cases G
    refine hQ _ _ ?_
    refine lv0 Tryz.results94 J ?_
    exact⟨rfl,X⟩
   obtain⟨o1,o2,G⟩:=bnd G
   have o3:∀ (d2:(List S47)),(d2)=o1→∀ (U:Act) (w:World),FR 220 [] U [(0,.slice A0 n0 c0),(4,.func (.func 57) #[] #[])]→SH r (own k47 47 A0 n0 c0 d2::L) w→i1 U w:=by
    intro d2 ht U w J X
    subst ht
    replace G:dW d2=some y:=G
    unfold dW at G
    exact hb5 d2 G U w (J.sub _ rfl) X
   refine aD o2 (fun s U w=>FR 220 [] U [(0,.slice A0 n0 c0),(4,.func (.func 57) #[] #[]),(14,.int .i64 c8),(17,.int .i64 s.2)]∧SH r (own k47 47 A0 n0 c0 s.1::L) w) ⟨J.sub _ rfl,X⟩ ?_
   intro x8 o4 o5 G o6 o7 U w hLab
   obtain⟨i2,H⟩:=o4
   replace G:aT c8 i2 H=some o5:=G
   unfold aT at G
   try dsimp only at hLab
   obtain⟨J,X⟩:=hLab
   refine wp_seq_k fun x9 o8=>?_
   refine ws fun y0 o9=>?_
   refine x_m J rfl fun U J=>?_
   refine x_m J rfl fun U J=>?_
   refine x_v J (aA9 rfl (J.ev rfl) (J.ev rfl)) rfl fun U J=>?_
   refine wn (o9 _ _ ?_)
   refine zJ J rfl (fun e9=>?_) fun e9=>?_
   ·replace G:=ift e9 G
    refine wp_skip ?_
    refine o8 _ _ ?_
    refine wp_seq_k fun y1 p0=>?_
    refine aA fun y2 p1=>?_
    refine cN [0,0,0,0,8,0,0,64,224,480,0,0,3072,7168,16355,32739,65535,131071] [15,17] rfl J X (by kernel_rfl) (by kernel_rfl) (by kernel_rfl) (by kernel_rfl) fun w X=>?_
    obtain⟨Y,i3,G⟩:=bnd G
    obtain⟨cs,hV,p2⟩:=el (X.rd 0 rfl) i3
    obtain rfl:=hV
    obtain⟨a4,d8,G⟩:=bnd G
    obtain⟨cs,hV,p3⟩:=el (X.rd 0 rfl) d8
    obtain rfl:=hV
    refine⟨[(0,.slice A0 n0 c0),(1,.int .i64 H),(2,.slice A0 n0 c0),(3,.int .i64 H),(4,.int .i64 (IntKind.i64.wrap (H - 1))),(5,.slice A0 n0 c0),(6,.int .i64 H),(7,.int .i64 (IntKind.i64.wrap (H - 1))),(8,.pointer (some (ea A0 ((IntKind.i64.wrap (H - 1)).toNat * 5)))),(9,.agg #[.int .u64 Y.f0,.int .i64 Y.f1,.int .i64 Y.f2,str Y.f3,.float .f64 Y.f4]),(10,.slice A0 n0 c0),(11,.int .i64 H),(12,.pointer (some (ea A0 (H.toNat * 5)))),(13,.agg #[.int .u64 a4.f0,.int .i64 a4.f1,.int .i64 a4.f2,str a4.f3,.float .f64 a4.f4]),(14,.pointer (some (ea A0 (H.toNat * 5))))],?_⟩
    refine dF [0,1,2,3,4,5,6,7,8,9,10,11,12,13,14] [15] (by kernel_rfl) ⟨pm rfl,pm rfl,pm rfl,pm rfl,pt [(116,.int .i64 H)] rfl (fun U J=>oY rfl (J.ev rfl) (J.ev rfl)),pm rfl,pm rfl,pt [(119,.int .i64 H)] rfl (fun U J=>oY rfl (J.ev rfl) (J.ev rfl)),pt [(118,.slice A0 n0 c0),(120,.int .i64 (IntKind.i64.wrap (H - 1)))] rfl (fun U J=>fH eT cI (X.rd 0 rfl) i3 J rfl rfl rfl),pt [(121,.pointer (some (ea A0 ((IntKind.i64.wrap (H - 1)).toNat * 5))))] rfl (fun U J=>nJ (cs:=[.int .u64 Y.f0,.int .i64 Y.f1,.int .i64 Y.f2,str Y.f3,.float .f64 Y.f4]) mG cI (fun j u h=>by rw [fG]; exact p2 _ _ h) J rfl rfl rfl),pm rfl,pm rfl,pt [(123,.slice A0 n0 c0),(124,.int .i64 H)] rfl (fun U J=>fH eT cI (X.rd 0 rfl) d8 J rfl rfl rfl),pt [(125,.pointer (some (ea A0 (H.toNat * 5))))] rfl (fun U J=>nJ (cs:=[.int .u64 a4.f0,.int .i64 a4.f1,.int .i64 a4.f2,str a4.f3,.float .f64 a4.f4]) mG cI (fun j u h=>by rw [fG]; exact p3 _ _ h) J rfl rfl rfl),pt [(113,.slice A0 n0 c0),(114,.int .i64 H)] rfl (fun U J=>fH eT cI (X.rd 0 rfl) d8 J rfl rfl rfl),trivial⟩ ⟨et [(122,.agg #[.int .u64 Y.f0,.int .i64 Y.f1,.int .i64 Y.f2,str Y.f3,.float .f64 Y.f4]),(127,.pointer (some (ea A0 (H.toNat * 5))))] rfl (fun U J K hK=>?_),trivial⟩
    refine xE (z':=Y) (off:=0) (vs:=[.int .u64 Y.f0,.int .i64 Y.f1,.int .i64 Y.f2,str Y.f3,.float .f64 Y.f4]) 0 cI J X rfl (dQ d8).2.2 (fun c h=>by cases h; rfl) (fun  w X=>?_) rfl rfl rfl rfl rfl rfl
    obtain⟨y3,i4,G⟩:=bnd G
    refine hK _ [(16,.pointer (some (ea A0 ((IntKind.i64.wrap (H - 1)).toNat * 5))))] _ rfl ?_
    refine dF [2,3,4,16] [17] (by kernel_rfl) ⟨pm rfl,pm rfl,pt [(116,.int .i64 H)] rfl (fun U J=>oY rfl (J.ev rfl) (J.ev rfl)),pt [(115,.slice A0 n0 c0),(117,.int .i64 (IntKind.i64.wrap (H - 1)))] rfl (fun U J=>fH eT cI (X.rd 0 rfl) i4 J rfl rfl rfl),trivial⟩ ⟨et [(126,.agg #[.int .u64 a4.f0,.int .i64 a4.f1,.int .i64 a4.f2,str a4.f3,.float .f64 a4.f4]),(128,.pointer (some (ea A0 ((IntKind.i64.wrap (H - 1)).toNat * 5))))] rfl (fun U J K hK=>?_),trivial⟩
    refine xE (z':=a4) (off:=0) (vs:=[.int .u64 a4.f0,.int .i64 a4.f1,.int .i64 a4.f2,str a4.f3,.float .f64 a4.f4]) 0 cI J X rfl (dQ i4).2.2 (fun c h=>by cases h; rfl) (fun  w X=>?_) rfl rfl rfl rfl rfl rfl
    refine hK _ [] _ rfl ?_
    refine gM [] (by kernel_rfl) trivial ⟨by kernel_rfl,by kernel_rfl⟩ [(0,.slice A0 n0 c0),(4,.func (.func 57) #[] #[]),(14,.int .i64 c8),(17,.int .i64 H)] rfl (fun U J=>?_)
    refine p1 _ _ ?_
    refine p0 _ _ ?_
    refine aC ?_
    refine x_m J rfl fun U J=>?_
    refine x_v J (oY rfl (J.ev rfl) (J.ev rfl)) rfl fun U J=>?_
    refine x_m J rfl fun U J=>?_
    refine wpList_nil ?_
    cases G
    exact⟨_,o6 _ rfl,J.sub _ rfl,X⟩
   replace G:=xM e9 G
   refine wp_exit ?_
   cases G
   exact o3 i2 (o7 _ rfl) U w (J.sub _ rfl) X
  obtain⟨p4,p5,G⟩:=bnd G
  have p6:∀ (d3:Int),(d3)=p4→∀ (U:Act) (w:World),FR 220 [] U [(0,.slice A0 n0 c0),(2,.int .i64 a2),(4,.func (.func 57) #[] #[]),(14,.int .i64 d3)]→SH r (own k47 47 A0 n0 c0 a0::L) w→i0 U w:=by
   intro d3 ht U w J X
   subst ht
   replace G:dY a0 a2 d3=some y:=G
   unfold dY at G
   exact hb4 d3 G U w (J.sub _ rfl) X
  refine aD p5 (fun s U w=>FR 220 [] U [(0,.slice A0 n0 c0),(2,.int .i64 a2),(4,.func (.func 57) #[] #[]),(14,.int .i64 s.1),(15,.int .i64 s.2)]∧SH r (own k47 47 A0 n0 c0 a0::L) w) ⟨J.sub _ rfl,X⟩ ?_
  intro y4 p7 i5 G p8 p9 U w hLab
  obtain⟨b7,b9⟩:=p7
  replace G:bE a0 a2 b7 b9=some i5:=G
  unfold bE at G
  try dsimp only at hLab
  obtain⟨J,X⟩:=hLab
  refine wp_seq_k fun y5 q0=>?_
  refine ws fun y6 q1=>?_
  refine x_m J rfl fun U J=>?_
  refine x_m J rfl fun U J=>?_
  refine x_v J (rB rfl (J.ev rfl) (J.ev rfl)) rfl fun U J=>?_
  refine wn (q1 _ _ ?_)
  refine zJ J rfl (fun f5=>?_) fun f5=>?_
  ·replace G:=ift f5 G
   refine wp_skip ?_
   refine q0 _ _ ?_
   refine aA fun q2 q3=>?_
   have hb6:∀ (f6:Int) (f7:Int),cV f6 f7=some i5→∀ (U:Act) (w:World),FR 220 [] U [(0,.slice A0 n0 c0),(2,.int .i64 a2),(4,.func (.func 57) #[] #[]),(14,.int .i64 f6),(15,.int .i64 f7)]→SH r (own k47 47 A0 n0 c0 a0::L) w→q2 U w:=by
    intro f6 f7 G U w J X
    unfold cV at G
    refine q3 _ _ ?_
    cases G
    exact⟨_,p8 _ rfl,J.sub _ rfl,X⟩
   refine ws fun y7 q4=>?_
   refine x_m J rfl fun U J=>?_
   refine x_m J rfl fun U J=>?_
   refine x_v J (iR rfl (J.ev rfl) (J.ev rfl)) rfl fun U J=>?_
   refine x_v J (aS uu3 aEa rfl (J.ev rfl)) rfl fun U J=>?_
   refine x_v J (qW rfl (J.ev rfl) (J.ev rfl) (by decide)) rfl fun U J=>?_
   refine x_v J (aS aEa uu3 rfl (J.ev rfl)) rfl fun U J=>?_
   refine x_m J rfl fun U J=>?_
   refine wn (q4 _ _ ?_)
   refine wp_seq_k fun y8 q5=>?_
   refine cN [0,0,0,6,14,0,0,96,224,511,1023,2047] [9] rfl J X (by kernel_rfl) (by kernel_rfl) (by kernel_rfl) (by kernel_rfl) fun w X=>?_
   obtain⟨a7,i6,G⟩:=bnd G
   obtain⟨cs,hV,q6⟩:=el (X.rd 0 rfl) i6
   obtain rfl:=hV
   obtain⟨a8,i7,G⟩:=bnd G
   obtain⟨cs,hV,q7⟩:=el (X.rd 0 rfl) i7
   obtain rfl:=hV
   refine⟨[(0,.func (.func 57) #[] #[]),(1,.slice A0 n0 c0),(2,.int .i64 a2),(3,.pointer (some (ea A0 (a2.toNat * 5)))),(4,.agg #[.int .u64 a7.f0,.int .i64 a7.f1,.int .i64 a7.f2,str a7.f3,.float .f64 a7.f4]),(5,.slice A0 n0 c0),(6,.int .i64 (IntKind.i64.wrap (bS .u64 (IntKind.u64.wrap (IntKind.i64.wrap (b7+b9))) 1))),(7,.pointer (some (ea A0 ((IntKind.i64.wrap (bS .u64 (IntKind.u64.wrap (IntKind.i64.wrap (b7+b9))) 1)).toNat * 5)))),(8,.agg #[.int .u64 a8.f0,.int .i64 a8.f1,.int .i64 a8.f2,str a8.f3,.float .f64 a8.f4])],?_⟩
   refine dF [0,1,2,3,4,5,6,7,8] [9] (by kernel_rfl) ⟨pm rfl,pm rfl,pm rfl,pt [(93,.slice A0 n0 c0),(94,.int .i64 a2)] rfl (fun U J=>fH eT cI (X.rd 0 rfl) i6 J rfl rfl rfl),pt [(95,.pointer (some (ea A0 (a2.toNat * 5))))] rfl (fun U J=>nJ (cs:=[.int .u64 a7.f0,.int .i64 a7.f1,.int .i64 a7.f2,str a7.f3,.float .f64 a7.f4]) mG cI (fun j u h=>by rw [fG]; exact q6 _ _ h) J rfl rfl rfl),pm rfl,pm rfl,pt [(97,.slice A0 n0 c0),(98,.int .i64 (IntKind.i64.wrap (bS .u64 (IntKind.u64.wrap (IntKind.i64.wrap (b7+b9))) 1)))] rfl (fun U J=>fH eT cI (X.rd 0 rfl) i7 J rfl rfl rfl),pt [(99,.pointer (some (ea A0 ((IntKind.i64.wrap (bS .u64 (IntKind.u64.wrap (IntKind.i64.wrap (b7+b9))) 1)).toNat * 5))))] rfl (fun U J=>nJ (cs:=[.int .u64 a8.f0,.int .i64 a8.f1,.int .i64 a8.f2,str a8.f3,.float .f64 a8.f4]) mG cI (fun j u h=>by rw [fG]; exact q7 _ _ h) J rfl rfl rfl),trivial⟩ ⟨et [(92,.func (.func 57) #[] #[]),(96,.agg #[.int .u64 a7.f0,.int .i64 a7.f1,.int .i64 a7.f2,str a7.f3,.float .f64 a7.f4]),(100,.agg #[.int .u64 a8.f0,.int .i64 a8.f1,.int .i64 a8.f2,str a8.f3,.float .f64 a8.f4])] rfl (fun U J K hK=>?_),trivial⟩
   obtain⟨d4,q8,G⟩:=bnd G
   refine aBw (vs:=#[.agg #[.int .u64 a7.f0,.int .i64 a7.f1,.int .i64 a7.f2,str a7.f3,.float .f64 a7.f4],.agg #[.int .u64 a8.f0,.int .i64 a8.f1,.int .i64 a8.f2,str a8.f3,.float .f64 a8.f4]]) aTf J (rZ q8 X :) (fun v w hR=>?_) rfl
   obtain⟨rfl,X⟩:=hR
   refine hK _ [(10,.bool (decide (d4<0))),(11,.bool (!(decide (d4<0))))] _ rfl ?_
   refine gM [10,11] (by kernel_rfl) ⟨pt [(101,.int .i64 d4)] rfl (fun U J=>rB rfl (J.ev rfl) (J.ev rfl)),pt [(102,.bool (decide (d4<0)))] rfl (fun U J=>aCp rfl (J.ev rfl)),trivial⟩ ⟨by kernel_rfl,by kernel_rfl⟩ [(0,.slice A0 n0 c0),(2,.int .i64 a2),(4,.func (.func 57) #[] #[]),(14,.int .i64 b7),(15,.int .i64 b9),(16,.int .i64 (IntKind.i64.wrap (bS .u64 (IntKind.u64.wrap (IntKind.i64.wrap (b7+b9))) 1))),(103,.bool (!(decide (d4<0))))] rfl (fun U J=>?_)
   refine q5 _ _ ?_
   refine zJ J rfl (fun f8=>?_) fun f8=>?_
   ·replace G:=ift f8 G
    refine aC ?_
    refine x_m J rfl fun U J=>?_
    refine x_v J (iR rfl (J.ev rfl) (J.ev rfl)) rfl fun U J=>?_
    refine x_m J rfl fun U J=>?_
    refine wpList_nil ?_
    exact hb6 (IntKind.i64.wrap ((IntKind.i64.wrap (bS .u64 (IntKind.u64.wrap (IntKind.i64.wrap (b7+b9))) 1))+1)) b9 G U w (J.sub _ rfl) X
   replace G:=xM f8 G
   refine aC ?_
   refine x_m J rfl fun U J=>?_
   refine x_m J rfl fun U J=>?_
   refine wpList_nil ?_
   exact hb6 b7 (IntKind.i64.wrap (bS .u64 (IntKind.u64.wrap (IntKind.i64.wrap (b7+b9))) 1)) G U w (J.sub _ rfl) X
  replace G:=xM f5 G
  refine wp_exit ?_
  cases G
  exact p6 b7 (p9 _ rfl) U w (J.sub _ rfl) X
 replace G:=xM e7 G
 refine wp_skip ?_
 refine m9 _ _ ?_
 refine ws fun y9 q9=>?_
 refine x_m J rfl fun U J=>?_
 refine x_m J rfl fun U J=>?_
 refine x_v J (iR rfl (J.ev rfl) (J.ev rfl)) rfl fun U J=>?_
 refine x_v J (aS uu3 aEa rfl (J.ev rfl)) rfl fun U J=>?_
 refine x_v J (qW rfl (J.ev rfl) (J.ev rfl) (by decide)) rfl fun U J=>?_
 refine x_v J (aS aEa uu3 rfl (J.ev rfl)) rfl fun U J=>?_
 refine x_m J rfl fun U J=>?_
 refine wn (q9 _ _ ?_)
 refine ws fun z0 r0=>?_
 refine x_m J rfl fun U J=>?_
 refine x_m J rfl fun U J=>?_
 refine x_v J (iR rfl (J.ev rfl) (J.ev rfl)) rfl fun U J=>?_
 refine x_m J rfl fun U J=>?_
 refine wn (r0 _ _ ?_)
 refine ws fun z1 r1=>?_
 refine x_m J rfl fun U J=>?_
 refine x_m J rfl fun U J=>?_
 refine wn (r1 _ _ ?_)
 refine wp_seq_k fun r2 r3=>?_
 have hj1:∀ (f9:Int) (g0:Int),cE rec_ a0 a1 a2 a3 f9 g0=some y→∀ (U:Act) (w:World),FR 220 [] U [(0,.slice A0 n0 c0),(1,.int .i64 a1),(2,.int .i64 a2),(3,.int .i64 a3),(4,.func (.func 57) #[] #[]),(18,.int .i64 (IntKind.i64.wrap (bS .u64 (IntKind.u64.wrap (IntKind.i64.wrap (a1+a3))) 1))),(19,.int .i64 (IntKind.i64.wrap ((IntKind.i64.wrap (bS .u64 (IntKind.u64.wrap (IntKind.i64.wrap (a1+a3))) 1))+a2))),(20,.int .i64 f9),(21,.int .i64 g0)]→SH r (own k47 47 A0 n0 c0 a0::L) w→r2 U w:=by
  intro f9 g0 G U w J X
  unfold cE at G
  refine r3 _ _ ?_
  refine ws fun z2 r4=>?_
  refine x_m J rfl fun U J=>?_
  refine x_v J (oY rfl (J.ev rfl) (J.ev rfl)) rfl fun U J=>?_
  refine x_m J rfl fun U J=>?_
  refine wn (r4 _ _ ?_)
  refine wp_seq_k fun z3 r5=>?_
  refine aA fun i8 r6=>?_
  have hb7:∀ (z:Int),cR rec_ a0 a1 a2 a3 z=some y→∀ (U:Act) (w:World),FR 220 [] U [(0,.slice A0 n0 c0),(1,.int .i64 a1),(2,.int .i64 a2),(3,.int .i64 a3),(4,.func (.func 57) #[] #[]),(18,.int .i64 (IntKind.i64.wrap (bS .u64 (IntKind.u64.wrap (IntKind.i64.wrap (a1+a3))) 1))),(19,.int .i64 (IntKind.i64.wrap ((IntKind.i64.wrap (bS .u64 (IntKind.u64.wrap (IntKind.i64.wrap (a1+a3))) 1))+a2))),(20,.int .i64 z)]→SH r (own k47 47 A0 n0 c0 a0::L) w→i8 U w:=by
   intro z G U w J X
   unfold cR at G
   refine r6 _ _ ?_
   refine r5 _ _ ?_
   refine ws fun z4 r7=>?_
   refine x_m J rfl fun U J=>?_
   refine x_m J rfl fun U J=>?_
   refine x_v J (oY rfl (J.ev rfl) (J.ev rfl)) rfl fun U J=>?_
   refine x_m J rfl fun U J=>?_
   refine wn (r7 _ _ ?_)
   refine wp_seq_k fun r8 r9=>?_
   have hj2:∀ (c6:(List S47)),bP rec_ a1 a2 a3 z c6=some y→∀ (U:Act) (w:World),FR 220 [] U [(0,.slice A0 n0 c0),(1,.int .i64 a1),(3,.int .i64 a3),(4,.func (.func 57) #[] #[]),(18,.int .i64 (IntKind.i64.wrap (bS .u64 (IntKind.u64.wrap (IntKind.i64.wrap (a1+a3))) 1))),(20,.int .i64 z),(24,.int .i64 (IntKind.i64.wrap ((IntKind.i64.wrap ((IntKind.i64.wrap (bS .u64 (IntKind.u64.wrap (IntKind.i64.wrap (a1+a3))) 1))+a2)) - z)))]→SH r (own k47 47 A0 n0 c0 c6::L) w→r8 U w:=by
    intro c6 G U w J X
    unfold bP at G
    refine r9 _ _ ?_
    refine wp_seq_k fun s2 s3=>?_
    have hj3:∀ (c9:(List S47)),bQ rec_ a1 a2 a3 z c9=some y→∀ (U:Act) (w:World),FR 220 [] U [(0,.slice A0 n0 c0),(3,.int .i64 a3),(4,.func (.func 57) #[] #[]),(18,.int .i64 (IntKind.i64.wrap (bS .u64 (IntKind.u64.wrap (IntKind.i64.wrap (a1+a3))) 1))),(24,.int .i64 (IntKind.i64.wrap ((IntKind.i64.wrap ((IntKind.i64.wrap (bS .u64 (IntKind.u64.wrap (IntKind.i64.wrap (a1+a3))) 1))+a2)) - z)))]→SH r (own k47 47 A0 n0 c0 c9::L) w→s2 U w:=by
     intro c9 G U w J X
     unfold bQ at G
     refine s3 _ _ ?_
     refine wp_seq_k fun s4 s5=>?_
     have hj4:∀ (g1:Bool),cB rec_ a1 a2 a3 z c9 g1=some y→∀ (U:Act) (w:World),FR 220 [] U [(0,.slice A0 n0 c0),(3,.int .i64 a3),(4,.func (.func 57) #[] #[]),(18,.int .i64 (IntKind.i64.wrap (bS .u64 (IntKind.u64.wrap (IntKind.i64.wrap (a1+a3))) 1))),(24,.int .i64 (IntKind.i64.wrap ((IntKind.i64.wrap ((IntKind.i64.wrap (bS .u64 (IntKind.u64.wrap (IntKind.i64.wrap (a1+a3))) 1))+a2)) - z))),(213,.bool g1)]→SH r (own k47 47 A0 n0 c0 c9::L) w→s4 U w:=by
      intro g1 G U w J X
      unfold cB at G
      refine s5 _ _ ?_
      refine zJ J rfl (fun g2=>?_) fun g2=>?_
      ·replace G:=ift g2 G
       refine aC ?_
       refine x_m J rfl fun U J=>?_
       refine x_m J rfl fun U J=>?_
       refine x_m J rfl fun U J=>?_
       refine x_m J rfl fun U J=>?_
       refine x_m J rfl fun U J=>?_
       obtain⟨z5,s6,G⟩:=bnd G
       refine aIs aT5 J (hrec (L:=L) c9 (IntKind.i64.wrap (bS .u64 (IntKind.u64.wrap (IntKind.i64.wrap (a1+a3))) 1)) (IntKind.i64.wrap ((IntKind.i64.wrap ((IntKind.i64.wrap (bS .u64 (IntKind.u64.wrap (IntKind.i64.wrap (a1+a3))) 1))+a2)) - z)) a3 A0 n0 c0 s6 X) (fun v U w hR J=>?_) rfl
       obtain⟨rfl,X⟩:=hR
       refine wpList_nil ?_
       cases G
       refine hQn _ _ ?_
       refine aB1 Tryz.results94 J ?_
       exact⟨rfl,X⟩
      replace G:=xM g2 G
      refine wp_skip ?_
      cases G
      refine hQn _ _ ?_
      refine aB1 Tryz.results94 J ?_
      exact⟨rfl,X⟩
     refine aC ?_
     refine x_m J rfl fun U J=>?_
     refine x_m J rfl fun U J=>?_
     refine x_v J (rB rfl (J.ev rfl) (J.ev rfl)) rfl fun U J=>?_
     refine x_m J rfl fun U J=>?_
     refine aR3 (b:=decide (IntKind.i64.wrap (bS .u64 (IntKind.u64.wrap (IntKind.i64.wrap (a1+a3))) 1)<IntKind.i64.wrap ((IntKind.i64.wrap ((IntKind.i64.wrap (bS .u64 (IntKind.u64.wrap (IntKind.i64.wrap (a1+a3))) 1))+a2)) - z))) (fun c3=>?_) fun c3=>?_
     ·replace G:=ift c3 G
      refine aO c3 J ?_ rfl
      refine x_m J rfl fun U J=>?_
      refine aO c3 J ?_ rfl
      refine x_m J rfl fun U J=>?_
      refine aO c3 J ?_ rfl
      refine x_v J (rB rfl (J.ev rfl) (J.ev rfl)) rfl fun U J=>?_
      refine oA c3 J (fun U J=>?_) rfl
      refine wpList_nil ?_
      exact hj4 (decide (IntKind.i64.wrap ((IntKind.i64.wrap ((IntKind.i64.wrap (bS .u64 (IntKind.u64.wrap (IntKind.i64.wrap (a1+a3))) 1))+a2)) - z)<a3)) G U w (J.sub _ rfl) X
     replace G:=xM c3 G
     refine xO 3 c3 J rfl fun U J=>?_
     refine cG c3 J (fun U J=>?_) rfl
     refine wpList_nil ?_
     exact hj4 false G U w (J.sub _ rfl) X
    refine wp_seq_k fun s7 s8=>?_
    have hj5:∀ (g3:Bool),cD rec_ a1 a2 a3 z c6 g3=some y→∀ (U:Act) (w:World),FR 220 [] U [(0,.slice A0 n0 c0),(1,.int .i64 a1),(3,.int .i64 a3),(4,.func (.func 57) #[] #[]),(18,.int .i64 (IntKind.i64.wrap (bS .u64 (IntKind.u64.wrap (IntKind.i64.wrap (a1+a3))) 1))),(20,.int .i64 z),(24,.int .i64 (IntKind.i64.wrap ((IntKind.i64.wrap ((IntKind.i64.wrap (bS .u64 (IntKind.u64.wrap (IntKind.i64.wrap (a1+a3))) 1))+a2)) - z))),(199,.bool g3)]→SH r (own k47 47 A0 n0 c0 c6::L) w→s7 U w:=by
     intro g3 G U w J X
     unfold cD at G
     refine s8 _ _ ?_
     refine zJ J rfl (fun g4=>?_) fun g4=>?_
     ·replace G:=ift g4 G
      refine aC ?_
      refine x_m J rfl fun U J=>?_
      refine x_m J rfl fun U J=>?_
      refine x_m J rfl fun U J=>?_
      refine x_m J rfl fun U J=>?_
      refine x_m J rfl fun U J=>?_
      obtain⟨s9,t0,G⟩:=bnd G
      refine aIs aT5 J (hrec (L:=L) c6 a1 z (IntKind.i64.wrap (bS .u64 (IntKind.u64.wrap (IntKind.i64.wrap (a1+a3))) 1)) A0 n0 c0 t0 X) (fun v U w hR J=>?_) rfl
      obtain⟨rfl,X⟩:=hR
      refine wpList_nil ?_
      exact hj3 s9 G U w (J.sub _ rfl) X
     replace G:=xM g4 G
     refine wp_skip ?_
     exact hj3 c6 G U w (J.sub _ rfl) X
    refine aC ?_
    refine x_m J rfl fun U J=>?_
    refine x_m J rfl fun U J=>?_
    refine x_v J (rB rfl (J.ev rfl) (J.ev rfl)) rfl fun U J=>?_
    refine x_m J rfl fun U J=>?_
    refine aR3 (b:=decide (a1<z)) (fun c4=>?_) fun c4=>?_
    ·replace G:=ift c4 G
     refine aO c4 J ?_ rfl
     refine x_m J rfl fun U J=>?_
     refine aO c4 J ?_ rfl
     refine x_m J rfl fun U J=>?_
     refine aO c4 J ?_ rfl
     refine x_v J (rB rfl (J.ev rfl) (J.ev rfl)) rfl fun U J=>?_
     refine oA c4 J (fun U J=>?_) rfl
     refine wpList_nil ?_
     exact hj5 (decide (z<IntKind.i64.wrap (bS .u64 (IntKind.u64.wrap (IntKind.i64.wrap (a1+a3))) 1))) G U w (J.sub _ rfl) X
    replace G:=xM c4 G
    refine xO 3 c4 J rfl fun U J=>?_
    refine cG c4 J (fun U J=>?_) rfl
    refine wpList_nil ?_
    exact hj5 false G U w (J.sub _ rfl) X
   refine wp_seq_k fun t1 t3=>?_
   have hj6:∀ (g5:Bool),cA rec_ a0 a1 a2 a3 z g5=some y→∀ (U:Act) (w:World),FR 220 [] U [(0,.slice A0 n0 c0),(1,.int .i64 a1),(2,.int .i64 a2),(3,.int .i64 a3),(4,.func (.func 57) #[] #[]),(18,.int .i64 (IntKind.i64.wrap (bS .u64 (IntKind.u64.wrap (IntKind.i64.wrap (a1+a3))) 1))),(20,.int .i64 z),(24,.int .i64 (IntKind.i64.wrap ((IntKind.i64.wrap ((IntKind.i64.wrap (bS .u64 (IntKind.u64.wrap (IntKind.i64.wrap (a1+a3))) 1))+a2)) - z))),(185,.bool g5)]→SH r (own k47 47 A0 n0 c0 a0::L) w→t1 U w:=by
    intro g5 G U w J X
    unfold cA at G
    refine t3 _ _ ?_
    refine zJ J rfl (fun g6=>?_) fun g6=>?_
    ·replace G:=ift g6 G
     refine aC ?_
     refine x_m J rfl fun U J=>?_
     refine x_m J rfl fun U J=>?_
     refine x_m J rfl fun U J=>?_
     refine x_m J rfl fun U J=>?_
     refine x_m J rfl fun U J=>?_
     obtain⟨t4,t5,G⟩:=bnd G
     refine aIs aX1 J (sC t5 X :) (fun v U w hR J=>?_) rfl
     obtain⟨rfl,X⟩:=hR
     refine wpList_nil ?_
     exact hj2 t4 G U w (J.sub _ rfl) X
    replace G:=xM g6 G
    refine wp_skip ?_
    exact hj2 a0 G U w (J.sub _ rfl) X
   refine aC ?_
   refine x_m J rfl fun U J=>?_
   refine x_m J rfl fun U J=>?_
   refine x_v J (rB rfl (J.ev rfl) (J.ev rfl)) rfl fun U J=>?_
   refine x_m J rfl fun U J=>?_
   refine aR3 (b:=decide (z<a2)) (fun c5=>?_) fun c5=>?_
   ·replace G:=ift c5 G
    refine aO c5 J ?_ rfl
    refine x_m J rfl fun U J=>?_
    refine aO c5 J ?_ rfl
    refine x_m J rfl fun U J=>?_
    refine aO c5 J ?_ rfl
    refine x_v J (rB rfl (J.ev rfl) (J.ev rfl)) rfl fun U J=>?_
    refine oA c5 J (fun U J=>?_) rfl
    refine wpList_nil ?_
    exact hj6 (decide (a2<IntKind.i64.wrap ((IntKind.i64.wrap ((IntKind.i64.wrap (bS .u64 (IntKind.u64.wrap (IntKind.i64.wrap (a1+a3))) 1))+a2)) - z))) G U w (J.sub _ rfl) X
   replace G:=xM c5 G
   refine xO 3 c5 J rfl fun U J=>?_
   refine cG c5 J (fun U J=>?_) rfl
   refine wpList_nil ?_
   exact hj6 false G U w (J.sub _ rfl) X
  obtain⟨t229,t6,G⟩:=bnd G
  have t7:∀ (d5:Int),(d5)=t229→∀ (U:Act) (w:World),FR 220 [] U [(0,.slice A0 n0 c0),(1,.int .i64 a1),(2,.int .i64 a2),(3,.int .i64 a3),(4,.func (.func 57) #[] #[]),(18,.int .i64 (IntKind.i64.wrap (bS .u64 (IntKind.u64.wrap (IntKind.i64.wrap (a1+a3))) 1))),(19,.int .i64 (IntKind.i64.wrap ((IntKind.i64.wrap (bS .u64 (IntKind.u64.wrap (IntKind.i64.wrap (a1+a3))) 1))+a2))),(20,.int .i64 d5)]→SH r (own k47 47 A0 n0 c0 a0::L) w→i8 U w:=by
   intro d5 ht U w J X
   subst ht
   replace G:dV rec_ a0 a1 a2 a3 d5=some y:=G
   unfold dV at G
   exact hb7 d5 G U w (J.sub _ rfl) X
  refine aD t6 (fun s U w=>FR 220 [] U [(0,.slice A0 n0 c0),(1,.int .i64 a1),(2,.int .i64 a2),(3,.int .i64 a3),(4,.func (.func 57) #[] #[]),(18,.int .i64 (IntKind.i64.wrap (bS .u64 (IntKind.u64.wrap (IntKind.i64.wrap (a1+a3))) 1))),(19,.int .i64 (IntKind.i64.wrap ((IntKind.i64.wrap (bS .u64 (IntKind.u64.wrap (IntKind.i64.wrap (a1+a3))) 1))+a2))),(20,.int .i64 s.1),(21,.int .i64 s.2),(22,.int .i64 (IntKind.i64.wrap ((IntKind.i64.wrap ((IntKind.i64.wrap (bS .u64 (IntKind.u64.wrap (IntKind.i64.wrap (a1+a3))) 1))+a2)) - 1)))]∧SH r (own k47 47 A0 n0 c0 a0::L) w) ⟨J.sub _ rfl,X⟩ ?_
  intro z6 t8 i9 G t9 u0 U w hLab
  obtain⟨b4,b5⟩:=t8
  replace G:bF a0 a1 a2 a3 b4 b5=some i9:=G
  unfold bF at G
  try dsimp only at hLab
  obtain⟨J,X⟩:=hLab
  refine wp_seq_k fun z7 u1=>?_
  refine ws fun z8 u2=>?_
  refine x_m J rfl fun U J=>?_
  refine x_m J rfl fun U J=>?_
  refine x_v J (rB rfl (J.ev rfl) (J.ev rfl)) rfl fun U J=>?_
  refine wn (u2 _ _ ?_)
  refine zJ J rfl (fun g7=>?_) fun g7=>?_
  ·replace G:=ift g7 G
   refine wp_skip ?_
   refine u1 _ _ ?_
   refine aA fun u3 u4=>?_
   have hb8:∀ (g8:Int) (g9:Int),cU g8 g9=some i9→∀ (U:Act) (w:World),FR 220 [] U [(0,.slice A0 n0 c0),(1,.int .i64 a1),(2,.int .i64 a2),(3,.int .i64 a3),(4,.func (.func 57) #[] #[]),(18,.int .i64 (IntKind.i64.wrap (bS .u64 (IntKind.u64.wrap (IntKind.i64.wrap (a1+a3))) 1))),(19,.int .i64 (IntKind.i64.wrap ((IntKind.i64.wrap (bS .u64 (IntKind.u64.wrap (IntKind.i64.wrap (a1+a3))) 1))+a2))),(20,.int .i64 g8),(21,.int .i64 g9),(22,.int .i64 (IntKind.i64.wrap ((IntKind.i64.wrap ((IntKind.i64.wrap (bS .u64 (IntKind.u64.wrap (IntKind.i64.wrap (a1+a3))) 1))+a2)) - 1)))]→SH r (own k47 47 A0 n0 c0 a0::L) w→u3 U w:=by
    intro g8 g9 G U w J X
    unfold cU at G
    refine u4 _ _ ?_
    cases G
    exact⟨_,t9 _ rfl,J.sub _ rfl,X⟩
   refine ws fun z9 u5=>?_
   refine x_m J rfl fun U J=>?_
   refine x_m J rfl fun U J=>?_
   refine x_v J (iR rfl (J.ev rfl) (J.ev rfl)) rfl fun U J=>?_
   refine x_v J (aS uu3 aEa rfl (J.ev rfl)) rfl fun U J=>?_
   refine x_v J (qW rfl (J.ev rfl) (J.ev rfl) (by decide)) rfl fun U J=>?_
   refine x_v J (aS aEa uu3 rfl (J.ev rfl)) rfl fun U J=>?_
   refine x_m J rfl fun U J=>?_
   refine wn (u5 _ _ ?_)
   refine wp_seq_k fun A1 u6=>?_
   refine cN [0,0,0,0,12,30,62,0,0,384,896,2047,4095,8191] [11] rfl J X (by kernel_rfl) (by kernel_rfl) (by kernel_rfl) (by kernel_rfl) fun w X=>?_
   obtain⟨a9,j0,G⟩:=bnd G
   obtain⟨cs,hV,u7⟩:=el (X.rd 0 rfl) j0
   obtain rfl:=hV
   obtain⟨b3,j1,G⟩:=bnd G
   obtain⟨cs,hV,u8⟩:=el (X.rd 0 rfl) j1
   obtain rfl:=hV
   refine⟨[(0,.func (.func 57) #[] #[]),(1,.slice A0 n0 c0),(2,.int .i64 (IntKind.i64.wrap ((IntKind.i64.wrap ((IntKind.i64.wrap (bS .u64 (IntKind.u64.wrap (IntKind.i64.wrap (a1+a3))) 1))+a2)) - 1))),(3,.int .i64 (IntKind.i64.wrap (bS .u64 (IntKind.u64.wrap (IntKind.i64.wrap (b4+b5))) 1))),(4,.int .i64 (IntKind.i64.wrap ((IntKind.i64.wrap ((IntKind.i64.wrap ((IntKind.i64.wrap (bS .u64 (IntKind.u64.wrap (IntKind.i64.wrap (a1+a3))) 1))+a2)) - 1)) - (IntKind.i64.wrap (bS .u64 (IntKind.u64.wrap (IntKind.i64.wrap (b4+b5))) 1))))),(5,.pointer (some (ea A0 ((IntKind.i64.wrap ((IntKind.i64.wrap ((IntKind.i64.wrap ((IntKind.i64.wrap (bS .u64 (IntKind.u64.wrap (IntKind.i64.wrap (a1+a3))) 1))+a2)) - 1)) - (IntKind.i64.wrap (bS .u64 (IntKind.u64.wrap (IntKind.i64.wrap (b4+b5))) 1)))).toNat * 5)))),(6,.agg #[.int .u64 a9.f0,.int .i64 a9.f1,.int .i64 a9.f2,str a9.f3,.float .f64 a9.f4]),(7,.slice A0 n0 c0),(8,.int .i64 (IntKind.i64.wrap (bS .u64 (IntKind.u64.wrap (IntKind.i64.wrap (b4+b5))) 1))),(9,.pointer (some (ea A0 ((IntKind.i64.wrap (bS .u64 (IntKind.u64.wrap (IntKind.i64.wrap (b4+b5))) 1)).toNat * 5)))),(10,.agg #[.int .u64 b3.f0,.int .i64 b3.f1,.int .i64 b3.f2,str b3.f3,.float .f64 b3.f4])],?_⟩
   refine dF [0,1,2,3,4,5,6,7,8,9,10] [11] (by kernel_rfl) ⟨pm rfl,pm rfl,pm rfl,pm rfl,pt [(160,.int .i64 (IntKind.i64.wrap ((IntKind.i64.wrap ((IntKind.i64.wrap (bS .u64 (IntKind.u64.wrap (IntKind.i64.wrap (a1+a3))) 1))+a2)) - 1))),(161,.int .i64 (IntKind.i64.wrap (bS .u64 (IntKind.u64.wrap (IntKind.i64.wrap (b4+b5))) 1)))] rfl (fun U J=>oY rfl (J.ev rfl) (J.ev rfl)),pt [(159,.slice A0 n0 c0),(162,.int .i64 (IntKind.i64.wrap ((IntKind.i64.wrap ((IntKind.i64.wrap ((IntKind.i64.wrap (bS .u64 (IntKind.u64.wrap (IntKind.i64.wrap (a1+a3))) 1))+a2)) - 1)) - (IntKind.i64.wrap (bS .u64 (IntKind.u64.wrap (IntKind.i64.wrap (b4+b5))) 1)))))] rfl (fun U J=>fH eT cI (X.rd 0 rfl) j0 J rfl rfl rfl),pt [(163,.pointer (some (ea A0 ((IntKind.i64.wrap ((IntKind.i64.wrap ((IntKind.i64.wrap ((IntKind.i64.wrap (bS .u64 (IntKind.u64.wrap (IntKind.i64.wrap (a1+a3))) 1))+a2)) - 1)) - (IntKind.i64.wrap (bS .u64 (IntKind.u64.wrap (IntKind.i64.wrap (b4+b5))) 1)))).toNat * 5))))] rfl (fun U J=>nJ (cs:=[.int .u64 a9.f0,.int .i64 a9.f1,.int .i64 a9.f2,str a9.f3,.float .f64 a9.f4]) mG cI (fun j u h=>by rw [fG]; exact u7 _ _ h) J rfl rfl rfl),pm rfl,pm rfl,pt [(165,.slice A0 n0 c0),(166,.int .i64 (IntKind.i64.wrap (bS .u64 (IntKind.u64.wrap (IntKind.i64.wrap (b4+b5))) 1)))] rfl (fun U J=>fH eT cI (X.rd 0 rfl) j1 J rfl rfl rfl),pt [(167,.pointer (some (ea A0 ((IntKind.i64.wrap (bS .u64 (IntKind.u64.wrap (IntKind.i64.wrap (b4+b5))) 1)).toNat * 5))))] rfl (fun U J=>nJ (cs:=[.int .u64 b3.f0,.int .i64 b3.f1,.int .i64 b3.f2,str b3.f3,.float .f64 b3.f4]) mG cI (fun j u h=>by rw [fG]; exact u8 _ _ h) J rfl rfl rfl),trivial⟩ ⟨et [(158,.func (.func 57) #[] #[]),(164,.agg #[.int .u64 a9.f0,.int .i64 a9.f1,.int .i64 a9.f2,str a9.f3,.float .f64 a9.f4]),(168,.agg #[.int .u64 b3.f0,.int .i64 b3.f1,.int .i64 b3.f2,str b3.f3,.float .f64 b3.f4])] rfl (fun U J K hK=>?_),trivial⟩
   obtain⟨d6,u9,G⟩:=bnd G
   refine aBw (vs:=#[.agg #[.int .u64 a9.f0,.int .i64 a9.f1,.int .i64 a9.f2,str a9.f3,.float .f64 a9.f4],.agg #[.int .u64 b3.f0,.int .i64 b3.f1,.int .i64 b3.f2,str b3.f3,.float .f64 b3.f4]]) aTf J (rZ u9 X :) (fun v w hR=>?_) rfl
   obtain⟨rfl,X⟩:=hR
   refine hK _ [(12,.bool (decide (d6<0))),(13,.bool (!(decide (d6<0))))] _ rfl ?_
   refine gM [12,13] (by kernel_rfl) ⟨pt [(169,.int .i64 d6)] rfl (fun U J=>rB rfl (J.ev rfl) (J.ev rfl)),pt [(170,.bool (decide (d6<0)))] rfl (fun U J=>aCp rfl (J.ev rfl)),trivial⟩ ⟨by kernel_rfl,by kernel_rfl⟩ [(0,.slice A0 n0 c0),(1,.int .i64 a1),(2,.int .i64 a2),(3,.int .i64 a3),(4,.func (.func 57) #[] #[]),(18,.int .i64 (IntKind.i64.wrap (bS .u64 (IntKind.u64.wrap (IntKind.i64.wrap (a1+a3))) 1))),(19,.int .i64 (IntKind.i64.wrap ((IntKind.i64.wrap (bS .u64 (IntKind.u64.wrap (IntKind.i64.wrap (a1+a3))) 1))+a2))),(20,.int .i64 b4),(21,.int .i64 b5),(22,.int .i64 (IntKind.i64.wrap ((IntKind.i64.wrap ((IntKind.i64.wrap (bS .u64 (IntKind.u64.wrap (IntKind.i64.wrap (a1+a3))) 1))+a2)) - 1))),(23,.int .i64 (IntKind.i64.wrap (bS .u64 (IntKind.u64.wrap (IntKind.i64.wrap (b4+b5))) 1))),(171,.bool (!(decide (d6<0))))] rfl (fun U J=>?_)
   refine u6 _ _ ?_
   refine zJ J rfl (fun h0=>?_) fun h0=>?_
   ·replace G:=ift h0 G
    refine aC ?_
    refine x_m J rfl fun U J=>?_
    refine x_v J (iR rfl (J.ev rfl) (J.ev rfl)) rfl fun U J=>?_
    refine x_m J rfl fun U J=>?_
    refine wpList_nil ?_
    exact hb8 (IntKind.i64.wrap ((IntKind.i64.wrap (bS .u64 (IntKind.u64.wrap (IntKind.i64.wrap (b4+b5))) 1))+1)) b5 G U w (J.sub _ rfl) X
   replace G:=xM h0 G
   refine aC ?_
   refine x_m J rfl fun U J=>?_
   refine x_m J rfl fun U J=>?_
   refine wpList_nil ?_
   exact hb8 b4 (IntKind.i64.wrap (bS .u64 (IntKind.u64.wrap (IntKind.i64.wrap (b4+b5))) 1)) G U w (J.sub _ rfl) X
  replace G:=xM g7 G
  refine wp_exit ?_
  cases G
  exact t7 b4 (u0 _ rfl) U w (J.sub _ rfl) X
 refine ws fun A3 v0=>?_
 refine x_m J rfl fun U J=>?_
 refine x_m J rfl fun U J=>?_
 refine x_v J (aA9 rfl (J.ev rfl) (J.ev rfl)) rfl fun U J=>?_
 refine wn (v0 _ _ ?_)
 refine zJ J rfl (fun h1=>?_) fun h1=>?_
 ·replace G:=ift h1 G
  refine ws fun A4 v1=>?_
  refine x_m J rfl fun U J=>?_
  refine x_m J rfl fun U J=>?_
  refine x_v J (oY rfl (J.ev rfl) (J.ev rfl)) rfl fun U J=>?_
  refine x_m J rfl fun U J=>?_
  refine wn (v1 _ _ ?_)
  refine aC ?_
  refine x_m J rfl fun U J=>?_
  refine x_m J rfl fun U J=>?_
  refine wpList_nil ?_
  exact hj1 (IntKind.i64.wrap ((IntKind.i64.wrap ((IntKind.i64.wrap (bS .u64 (IntKind.u64.wrap (IntKind.i64.wrap (a1+a3))) 1))+a2)) - a3)) (IntKind.i64.wrap (bS .u64 (IntKind.u64.wrap (IntKind.i64.wrap (a1+a3))) 1)) G U w (J.sub _ rfl) X
 replace G:=xM h1 G
 refine ws fun A5 v2=>?_
 refine x_m J rfl fun U J=>?_
 refine x_m J rfl fun U J=>?_
 refine wn (v2 _ _ ?_)
 refine aC ?_
 refine x_m J rfl fun U J=>?_
 refine x_m J rfl fun U J=>?_
 refine wpList_nil ?_
 exact hj1 a1 a2 G U w (J.sub _ rfl) X
theorem qS (k:Nat):∀ {r:World} {L:List HP} {w:World} (a0:(List S47)) (a1:Int) (a2:Int) (a3:Int) (A0:Option Addr) (n0:Nat) (c0:Nat) {y:((List S47))} (G:aE k a0 a1 a2 a3=some y) (X:SH r (own k47 47 A0 n0 c0 a0::L) w),Ret Tryz.prog 94 #[.slice A0 n0 c0,.int .i64 a1,.int .i64 a2,.int .i64 a3,.func (.func 57) #[] #[]] w fun v w'=>v=.tuple #[]∧SH r (own k47 47 A0 n0 c0 y::L) w':=by
 induction k with
 | zero=>intros; rename_i G _; cases G
 | succ k ih=>exact rA (aE k) ih
section
variable {r:World} {L:List HP} {w:World} {Z:Nat→Prop} {wz:World}
theorem kP {a0 a1 a2 a3 A0 n0 c0 y} (G:dP a0 a1 a2 a3=some y) (X:SH r (own k47 47 A0 n0 c0 a0::L) w) :
  Ret Tryz.prog 94 #[.slice A0 n0 c0,.int .i64 a1,.int .i64 a2,.int .i64 a3,.func (.func 57) #[] #[]] w fun v w'=>v=.tuple #[]∧SH r (own k47 47 A0 n0 c0 y::L) w':=qS 64 a0 a1 a2 a3 A0 n0 c0 G X
theorem iX {a0 a1 a2 A0 n0 c0 y} (G:bZ a0 a1 a2=some y) (X:SH r (own k47 47 A0 n0 c0 a0::L) w) :
  Ret Tryz.prog 93 #[.slice A0 n0 c0,.int .i64 a1,.int .i64 a2,.func (.func 57) #[] #[]] w fun v w'=>v=.tuple #[]∧SH r (own k47 47 A0 n0 c0 y::L) w':=by
 refine enter Tryz.func93 rfl Tryz.ntmps93 [(0,_),(1,_),(2,_),(3,_)] rfl (by simp) ?_
 intro U J Qf hQ hQn
 unfold bZ at G
 refine nz 3 J rfl fun U J=>aA fun b6 c7=>?_
 have hb1:∀a9,fD a9=some y→∀U w,FR 53 [] U [(0,.slice A0 n0 c0),(3,.func (.func 57) #[] #[])]→SH r (own k47 47 A0 n0 c0 a9::L) w→b6 U w:=by
  intro a9 G U w J X
  unfold fD at G
  cases G
  refine c7 _ _ (hQn _ _ ?_)
  exact aB1 Tryz.results93 J ⟨rfl,X⟩
 obtain⟨c8,c9,G⟩:=bnd G
 have d0:∀a4,(a4)=c8→∀U w,FR 53 [] U [(0,.slice A0 n0 c0),(3,.func (.func 57) #[] #[])]→SH r (own k47 47 A0 n0 c0 a4::L) w→b6 U w:=by
  intro a4 ht U w J X
  subst ht
  replace G:eS a4=some y:=G
  unfold eS at G
  exact hb1 a4 G U w (J.sub _ rfl) X
 refine aD c9 (fun s U w=>FR 53 [] U [(0,.slice A0 n0 c0),(1,.int .i64 a1),(2,.int .i64 a2),(3,.func (.func 57) #[] #[]),(8,.int .i64 s.2)]∧SH r (own k47 47 A0 n0 c0 s.1::L) w) ⟨J.sub _ rfl,X⟩ ?_
 intro g1 d1 b3 G d2 d3 U w hLab
 obtain⟨b7,a3⟩:=d1
 replace G:aG a1 a2 b7 a3=some b3:=G
 unfold aG at G
 try dsimp only at hLab
 obtain⟨J,X⟩:=hLab
 refine wp_seq_k fun g2 d4=>nz 3 J rfl fun U J=>bB J G rfl (fun d5 G=>?_) fun d5 G=>?_
 ·refine wp_skip (d4 _ _ ?_)
  refine wp_seq_k fun g3 d6=>aA fun g4 d7=>nz 2 J rfl fun U J=>aA fun b8 d8=>?_
  have hb2:∀b4,dE a3 b4=some b3→∀U w,FR 53 [] U [(0,.slice A0 n0 c0),(1,.int .i64 a1),(2,.int .i64 a2),(3,.func (.func 57) #[] #[]),(8,.int .i64 a3)]→SH r (own k47 47 A0 n0 c0 b4::L) w→b8 U w:=by
   intro b4 G U w J X
   unfold dE at G
   refine d8 _ _ (d7 _ _ ?_)
   refine d6 _ _ (aC ?_)
   refine nk 3 J rfl fun U J=>?_
   cases G
   exact⟨_,d2 _ rfl,J.sub _ rfl,X⟩
  obtain⟨d9,e0,G⟩:=bnd G
  have e1:∀a5,(a5)=d9→∀U w,FR 53 [] U [(0,.slice A0 n0 c0),(1,.int .i64 a1),(2,.int .i64 a2),(3,.func (.func 57) #[] #[]),(8,.int .i64 a3)]→SH r (own k47 47 A0 n0 c0 a5::L) w→b8 U w:=by
   intro a5 ht U w J X
   subst ht
   replace G:cP a3 a5=some b3:=G
   unfold cP at G
   exact hb2 a5 G U w (J.sub _ rfl) X
  refine aD e0 (fun s U w=>FR 53 [] U [(0,.slice A0 n0 c0),(1,.int .i64 a1),(2,.int .i64 a2),(3,.func (.func 57) #[] #[]),(8,.int .i64 a3),(9,.int .i64 s.2)]∧SH r (own k47 47 A0 n0 c0 s.1::L) w) ⟨J.sub _ rfl,X⟩ ?_
  intro g5 e2 b9 G e3 e4 U w hLab
  obtain⟨a7,z⟩:=e2
  replace G:aQ a1 a7 z=some b9:=G
  unfold aQ at G
  try dsimp only at hLab
  obtain⟨J,X⟩:=hLab
  refine wp_seq_k fun g6 e5=>wp_seq_k fun e6 e7=>?_
  have hj1:∀b5,cF a7 z b5=some b9→∀U w,FR 53 [] U [(0,.slice A0 n0 c0),(1,.int .i64 a1),(2,.int .i64 a2),(3,.func (.func 57) #[] #[]),(8,.int .i64 a3),(9,.int .i64 z),(34,.bool b5)]→SH r (own k47 47 A0 n0 c0 a7::L) w→e6 U w:=by
   intro b5 G U w J X
   unfold cF at G
   refine e7 _ _ (bB J G rfl (fun e8 G=>?_) fun e8 G=>?_)
   ·refine wp_skip (e5 _ _ ?_)
    refine wp_seq_k fun g7 e9=>aA fun g8 f5=>cN [0,0,0,0,8,0,0,64,224,480,0,0,3072,7168,16355,32739,65535,131071] [15,17] rfl J X (by kernel_rfl) (by kernel_rfl) (by kernel_rfl) (by kernel_rfl) fun w X=>?_
    obtain⟨S,c3,G⟩:=bnd G
    obtain⟨cs,hV,f6⟩:=el (X.rd 0 rfl) c3
    obtain rfl:=hV
    obtain⟨Y,a8,G⟩:=bnd G
    obtain⟨cs,hV,f7⟩:=el (X.rd 0 rfl) a8
    obtain rfl:=hV
    refine⟨[(0,.slice A0 n0 c0),(1,.int .i64 z),(2,.slice A0 n0 c0),(3,.int .i64 z),(4,.int .i64 (IntKind.i64.wrap (z - 1))),(5,.slice A0 n0 c0),(6,.int .i64 z),(7,.int .i64 (IntKind.i64.wrap (z - 1))),(8,.pointer (some (ea A0 ((IntKind.i64.wrap (z - 1)).toNat * 5)))),(9,.agg #[.int .u64 S.f0,.int .i64 S.f1,.int .i64 S.f2,str S.f3,.float .f64 S.f4]),(10,.slice A0 n0 c0),(11,.int .i64 z),(12,.pointer (some (ea A0 (z.toNat * 5)))),(13,.agg #[.int .u64 Y.f0,.int .i64 Y.f1,.int .i64 Y.f2,str Y.f3,.float .f64 Y.f4]),(14,.pointer (some (ea A0 (z.toNat * 5))))],?_⟩
    refine dF [0,1,2,3,4,5,6,7,8,9,10,11,12,13,14] [15] (by kernel_rfl) ⟨pm rfl,pm rfl,pm rfl,pm rfl,pt [(40,_)] rfl (fun U J=>oY rfl (J.ev rfl) (J.ev rfl)),pm rfl,pm rfl,pt [(43,_)] rfl (fun U J=>oY rfl (J.ev rfl) (J.ev rfl)),pt [(42,_),(44,_)] rfl (fun U J=>fH eT cI (X.rd 0 rfl) c3 J rfl rfl rfl),pt [(45,_)] rfl (fun U J=>nJ (cs:=[.int .u64 S.f0,.int .i64 S.f1,.int .i64 S.f2,str S.f3,.float .f64 S.f4]) mG cI (fun j u h=>by rw [fG]; exact f6 _ _ h) J rfl rfl rfl),pm rfl,pm rfl,pt [(47,_),(48,_)] rfl (fun U J=>fH eT cI (X.rd 0 rfl) a8 J rfl rfl rfl),pt [(49,_)] rfl (fun U J=>nJ (cs:=[.int .u64 Y.f0,.int .i64 Y.f1,.int .i64 Y.f2,str Y.f3,.float .f64 Y.f4]) mG cI (fun j u h=>by rw [fG]; exact f7 _ _ h) J rfl rfl rfl),pt [(37,_),(38,_)] rfl (fun U J=>fH eT cI (X.rd 0 rfl) a8 J rfl rfl rfl),trivial⟩ ⟨et [(46,_),(51,_)] rfl (fun U J K hK=>?_),trivial⟩
    refine xE (z':=S) (off:=0) (vs:=[.int .u64 S.f0,.int .i64 S.f1,.int .i64 S.f2,str S.f3,.float .f64 S.f4]) 0 cI J X rfl (dQ a8).2.2 (fun c h=>by cases h; rfl) (fun  w X=>?_) rfl rfl rfl rfl rfl rfl
    obtain⟨g9,c4,G⟩:=bnd G
    refine hK _ [(16,.pointer (some (ea A0 ((IntKind.i64.wrap (z - 1)).toNat * 5))))] _ rfl (dF [2,3,4,16] [17] (by kernel_rfl) ⟨pm rfl,pm rfl,pt [(40,_)] rfl (fun U J=>oY rfl (J.ev rfl) (J.ev rfl)),pt [(39,_),(41,_)] rfl (fun U J=>fH eT cI (X.rd 0 rfl) c4 J rfl rfl rfl),trivial⟩ ⟨et [(50,_),(52,_)] rfl (fun U J K hK=>?_),trivial⟩)
    refine xE (z':=Y) (off:=0) (vs:=[.int .u64 Y.f0,.int .i64 Y.f1,.int .i64 Y.f2,str Y.f3,.float .f64 Y.f4]) 0 cI J X rfl (dQ c4).2.2 (fun c h=>by cases h; rfl) (fun  w X=>?_) rfl rfl rfl rfl rfl rfl
    refine hK _ [] _ rfl (gM [] (by kernel_rfl) trivial ⟨by kernel_rfl,by kernel_rfl⟩ [(0,_),(1,_),(2,_),(3,_),(8,_),(9,_)] rfl (fun U J=>?_))
    refine f5 _ _ (e9 _ _ ?_)
    refine aC (nk 3 J rfl fun U J=>?_)
    cases G
    exact⟨_,e3 _ rfl,J.sub _ rfl,X⟩
   cases G
   exact wp_exit (e1 a7 (e4 _ rfl) U w (J.sub _ rfl) X)
  refine cN [0,0,3,7,15,15,15,111,239,15,15,1039,3599,7695,16383,32767,65535] [14] rfl J X (by kernel_rfl) (by kernel_rfl) (by kernel_rfl) (by kernel_rfl) fun w X=>bcG G (fun C G=>?_) fun C G=>?_
  ·obtain⟨H,c5,G⟩:=bnd G
   obtain⟨cs,hV,f8⟩:=el (X.rd 0 rfl) c5
   obtain rfl:=hV
   obtain⟨I,c6,G⟩:=bnd G
   obtain⟨cs,hV,f9⟩:=el (X.rd 0 rfl) c6
   obtain rfl:=hV
   refine⟨[(0,.int .i64 z),(1,.int .i64 a1),(2,.bool (decide (a1<z))),(3,.bool (decide (a1<z))),(4,.func (.func 57) #[] #[]),(5,.slice A0 n0 c0),(6,.int .i64 z),(7,.pointer (some (ea A0 (z.toNat * 5)))),(8,.agg #[.int .u64 H.f0,.int .i64 H.f1,.int .i64 H.f2,str H.f3,.float .f64 H.f4]),(9,.slice A0 n0 c0),(10,.int .i64 z),(11,.int .i64 (IntKind.i64.wrap (z - 1))),(12,.pointer (some (ea A0 ((IntKind.i64.wrap (z - 1)).toNat * 5)))),(13,.agg #[.int .u64 I.f0,.int .i64 I.f1,.int .i64 I.f2,str I.f3,.float .f64 I.f4])],?_⟩
   refine dF [0,1,2,3,4,5,6,7,8,9,10,11,12,13] [14] (by kernel_rfl) ⟨pm rfl,pm rfl,pt [(18,_),(19,_)] rfl (fun U J=>aA9 rfl (J.ev rfl) (J.ev rfl)),pm rfl,iH rfl rfl rfl rfl [(3,.func (.func 57) #[] #[]),(21,.bool (decide (a1<z)))] rfl C (fun U J=>mH J rfl rfl) rfl,iH rfl rfl rfl rfl [(0,.slice A0 n0 c0),(21,.bool (decide (a1<z)))] rfl C (fun U J=>mH J rfl rfl) rfl,iH rfl rfl rfl rfl [(9,.int .i64 z),(21,.bool (decide (a1<z)))] rfl C (fun U J=>mH J rfl rfl) rfl,iH rfl rfl rfl rfl [(21,.bool (decide (a1<z))),(23,.slice A0 n0 c0),(24,.int .i64 z)] rfl C (fun U J=>fH eT cI (X.rd 0 rfl) c5 J rfl rfl rfl) rfl,iH rfl rfl rfl rfl [(21,.bool (decide (a1<z))),(25,.pointer (some (ea A0 (z.toNat * 5))))] rfl C (fun U J=>nJ (cs:=[.int .u64 H.f0,.int .i64 H.f1,.int .i64 H.f2,str H.f3,.float .f64 H.f4]) mG cI (fun j u h=>by rw [fG]; exact f8 _ _ h) J rfl rfl rfl) rfl,iH rfl rfl rfl rfl [(0,.slice A0 n0 c0),(21,.bool (decide (a1<z)))] rfl C (fun U J=>mH J rfl rfl) rfl,iH rfl rfl rfl rfl [(9,.int .i64 z),(21,.bool (decide (a1<z)))] rfl C (fun U J=>mH J rfl rfl) rfl,iH rfl rfl rfl rfl [(21,.bool (decide (a1<z))),(28,.int .i64 z)] rfl C (fun U J=>oY rfl (J.ev rfl) (J.ev rfl)) rfl,iH rfl rfl rfl rfl [(21,.bool (decide (a1<z))),(27,.slice A0 n0 c0),(29,.int .i64 (IntKind.i64.wrap (z - 1)))] rfl C (fun U J=>fH eT cI (X.rd 0 rfl) c6 J rfl rfl rfl) rfl,iH rfl rfl rfl rfl [(21,.bool (decide (a1<z))),(30,.pointer (some (ea A0 ((IntKind.i64.wrap (z - 1)).toNat * 5))))] rfl C (fun U J=>nJ (cs:=[.int .u64 I.f0,.int .i64 I.f1,.int .i64 I.f2,str I.f3,.float .f64 I.f4]) mG cI (fun j u h=>by rw [fG]; exact f9 _ _ h) J rfl rfl rfl) rfl,trivial⟩ ⟨aX9 rfl rfl rfl [(21,.bool (decide (a1<z))),(22,.func (.func 57) #[] #[]),(26,.agg #[.int .u64 H.f0,.int .i64 H.f1,.int .i64 H.f2,str H.f3,.float .f64 H.f4]),(31,.agg #[.int .u64 I.f0,.int .i64 I.f1,.int .i64 I.f2,str I.f3,.float .f64 I.f4])] rfl C (fun U J K hK=>?_) rfl,trivial⟩
   obtain⟨a6,g0,G⟩:=bnd G
   refine aBw (vs:=#[.agg #[.int .u64 H.f0,.int .i64 H.f1,.int .i64 H.f2,str H.f3,.float .f64 H.f4],.agg #[.int .u64 I.f0,.int .i64 I.f1,.int .i64 I.f2,str I.f3,.float .f64 I.f4]]) aTf J (rZ g0 X :) (fun v w hR=>?_) rfl
   obtain⟨rfl,X⟩:=hR
   refine hK _ [(15,.bool (decide (a6<0))),(16,.bool (decide (a6<0)))] _ rfl (gM [15,16] (by kernel_rfl) ⟨iH rfl rfl rfl rfl [(21,.bool (decide (a1<z))),(32,.int .i64 a6)] rfl C (fun U J=>rB rfl (J.ev rfl) (J.ev rfl)) rfl,pt [(21,.bool (decide (a1<z))),(33,.bool (decide (a6<0)))] rfl (fun U J=>aAw C J rfl rfl rfl),trivial⟩ ⟨by kernel_rfl,by kernel_rfl⟩ [(0,_),(1,_),(2,_),(3,_),(8,_),(9,_),(22,_),(23,_),(24,_),(26,_),(27,_),(28,_),(29,_),(31,_),(32,_),(33,_),(34,_)] rfl (fun U J=>?_))
   exact hj1 (decide (a6<0)) G U w (J.sub _ rfl) X
  refine⟨[(0,.int .i64 z),(1,.int .i64 a1),(2,.bool (decide (a1<z))),(3,.bool (decide (a1<z))),(4,undef),(5,undef),(6,undef),(7,undef),(8,undef),(9,undef),(10,undef),(11,undef),(12,undef),(13,undef)],?_⟩
  refine dF [0,1,2,3,4,5,6,7,8,9,10,11,12,13] [14] (by kernel_rfl) ⟨pm rfl,pm rfl,pt [(18,_),(19,_)] rfl (fun U J=>aA9 rfl (J.ev rfl) (J.ev rfl)),pm rfl,eG rfl rfl rfl rfl [(3,.func (.func 57) #[] #[]),(21,.bool (decide (a1<z)))] rfl C rfl,eG rfl rfl rfl rfl [(0,.slice A0 n0 c0),(21,.bool (decide (a1<z)))] rfl C rfl,eG rfl rfl rfl rfl [(9,.int .i64 z),(21,.bool (decide (a1<z)))] rfl C rfl,eG rfl rfl rfl rfl [(21,.bool (decide (a1<z))),(23,undef),(24,undef)] rfl C rfl,eG rfl rfl rfl rfl [(21,.bool (decide (a1<z))),(25,undef)] rfl C rfl,eG rfl rfl rfl rfl [(0,.slice A0 n0 c0),(21,.bool (decide (a1<z)))] rfl C rfl,eG rfl rfl rfl rfl [(9,.int .i64 z),(21,.bool (decide (a1<z)))] rfl C rfl,eG rfl rfl rfl rfl [(21,.bool (decide (a1<z))),(28,undef)] rfl C rfl,eG rfl rfl rfl rfl [(21,.bool (decide (a1<z))),(27,undef),(29,undef)] rfl C rfl,eG rfl rfl rfl rfl [(21,.bool (decide (a1<z))),(30,undef)] rfl C rfl,trivial⟩ ⟨?_,trivial⟩
  refine aU3 rfl rfl rfl [(21,.bool (decide (a1<z))),(22,undef),(26,undef),(31,undef)] rfl [(15,undef),(16,.bool false)] C rfl ?_ rfl
  refine gM [15,16] (by kernel_rfl) ⟨eG rfl rfl rfl rfl [(21,.bool (decide (a1<z))),(32,undef)] rfl C rfl,pt [(21,.bool (decide (a1<z))),(33,undef)] rfl (fun U J=>yN C J rfl rfl rfl),trivial⟩ ⟨by kernel_rfl,by kernel_rfl⟩ [(0,_),(1,_),(2,_),(3,_),(8,_),(9,_),(34,_)] rfl (fun U J=>?_)
  exact hj1 false G U w (J.sub _ rfl) X
 cases G
 exact wp_exit (d0 b7 (d3 _ rfl) U w (J.sub _ rfl) X)
theorem tD {a0 a1 A0 n0 c0 y} (G:eH a0 a1=some y) (X:SH r (own k47 47 A0 n0 c0 a0::L) w) :
  Ret Tryz.prog 71 #[.slice A0 n0 c0,.int .i64 a1,.func (.func 57) #[] #[]] w fun v w'=>v=.tuple #[]∧SH r (own k47 47 A0 n0 c0 y::L) w':=by
 refine enter Tryz.func71 rfl Tryz.ntmps71 [(0,_),(1,_),(2,_)] rfl (by simp) ?_
 intro U J Qf hQ hQn
 unfold eH at G
 refine nz 1 J rfl fun U J=>nz 3 J rfl fun U J=>wp_seq_k fun h1 b9=>aA fun a8 c3=>?_
 have hb1:∀a3 a4,eW a1 a3 a4=some y→∀U w,FR 63 [] U [(0,.slice A0 n0 c0),(1,.int .i64 a1),(2,.func (.func 57) #[] #[]),(6,.int .i64 20),(7,.int .i64 a4)]→SH r (own k47 47 A0 n0 c0 a3::L) w→a8 U w:=by
  intro a3 a4 G U w J X
  unfold eW at G
  refine c3 _ _ (b9 _ _ ?_)
  refine ws fun h2 c4=>xk 4 J rfl fun U J=>?_
  obtain⟨h3,c5,G⟩:=bnd G
  refine x_c aZ2 J rfl (iX c5 X :) fun v U w hR J=>?_
  obtain⟨rfl,X⟩:=hR
  refine wn (c4 _ _ ?_)
  refine aA fun a9 c6=>?_
  have hb2:∀a5,gS a5=some y→∀U w,FR 63 [] U [(0,.slice A0 n0 c0),(2,.func (.func 57) #[] #[])]→SH r (own k47 47 A0 n0 c0 a5::L) w→a9 U w:=by
   intro a5 G U w J X
   unfold gS at G
   cases G
   refine c6 _ _ (hQn _ _ ?_)
   exact aB1 Tryz.results71 J ⟨rfl,X⟩
  obtain⟨c7,c8,G⟩:=bnd G
  have c9:∀z,(z)=c7→∀U w,FR 63 [] U [(0,.slice A0 n0 c0),(2,.func (.func 57) #[] #[])]→SH r (own k47 47 A0 n0 c0 z::L) w→a9 U w:=by
   intro z ht U w J X
   subst ht
   replace G:gK z=some y:=G
   unfold gK at G
   exact hb2 z G U w (J.sub _ rfl) X
  refine aD c8 (fun s U w=>FR 63 [] U [(0,.slice A0 n0 c0),(1,.int .i64 a1),(2,.func (.func 57) #[] #[]),(6,.int .i64 s.2)]∧SH r (own k47 47 A0 n0 c0 s.1::L) w) ⟨J.sub _ rfl,X⟩ ?_
  intro h4 d0 Y G d1 d2 U w hLab
  obtain⟨b3,h⟩:=d0
  replace G:bU a1 b3 h=some Y:=G
  unfold bU at G
  try dsimp only at hLab
  obtain⟨J,X⟩:=hLab
  refine wp_seq_k fun h5 d3=>nz 3 J rfl fun U J=>bB J G rfl (fun d4 G=>?_) fun d4 G=>?_
  ·refine wp_skip (d3 _ _ ?_)
   refine aA fun h6 d5=>nz 4 J rfl fun U J=>wp_seq_k fun h7 d6=>aA fun b4 d7=>?_
   have hb3:∀a2 a6,eV a1 h a2 a6=some Y→∀U w,FR 63 [] U [(0,.slice A0 n0 c0),(1,.int .i64 a1),(2,.func (.func 57) #[] #[]),(6,.int .i64 h),(7,.int .i64 a6)]→SH r (own k47 47 A0 n0 c0 a2::L) w→b4 U w:=by
    intro a2 a6 G U w J X
    unfold eV at G
    refine d7 _ _ (d6 _ _ ?_)
    refine wp_seq_k fun d8 d9=>?_
    have hj1:∀a7,dM h a7=some Y→∀U w,FR 63 [] U [(0,.slice A0 n0 c0),(1,.int .i64 a1),(2,.func (.func 57) #[] #[]),(6,.int .i64 h)]→SH r (own k47 47 A0 n0 c0 a7::L) w→d8 U w:=by
     intro a7 G U w J X
     unfold dM at G
     refine d9 _ _ (aC ?_)
     refine nk 3 J rfl fun U J=>?_
     cases G
     exact d5 _ _ ⟨_,d1 _ rfl,J.sub _ rfl,X⟩
    refine nz 4 J rfl fun U J=>nz 3 J rfl fun U J=>bB J G rfl (fun e0 G=>?_) fun e0 G=>?_
    ·refine aC (xk 5 J rfl fun U J=>?_)
     obtain⟨e1,e2,G⟩:=bnd G
     refine x_c aT5 J rfl (kP e2 X :) fun v U w hR J=>?_
     obtain⟨rfl,X⟩:=hR
     exact wpList_nil (hj1 e1 G U w (J.sub _ rfl) X)
    exact wp_skip (hj1 a2 G U w (J.sub _ rfl) X)
   obtain⟨e3,e4,G⟩:=bnd G
   have e5:∀C H,(C,H)=e3→∀U w,FR 63 [] U [(0,.slice A0 n0 c0),(1,.int .i64 a1),(2,.func (.func 57) #[] #[]),(6,.int .i64 h),(7,.int .i64 H)]→SH r (own k47 47 A0 n0 c0 C::L) w→b4 U w:=by
    intro C H ht U w J X
    subst ht
    replace G:eQ a1 h C H=some Y:=G
    unfold eQ at G
    exact hb3 C H G U w (J.sub _ rfl) X
   refine aD e4 (fun s U w=>FR 63 [] U [(0,.slice A0 n0 c0),(1,.int .i64 a1),(2,.func (.func 57) #[] #[]),(6,.int .i64 h),(7,.int .i64 s.2.1),(8,.int .i64 s.2.2)]∧SH r (own k47 47 A0 n0 c0 s.1::L) w) ⟨J.sub _ rfl,X⟩ ?_
   intro h8 e6 e7 G e8 e9 U w hLab
   obtain⟨b5,b6,f2⟩:=e6
   replace G:bX a1 h b5 b6 f2=some e7:=G
   unfold bX at G
   try dsimp only at hLab
   obtain⟨J,X⟩:=hLab
   refine wp_seq_k fun h9 f3=>nz 3 J rfl fun U J=>bB J G rfl (fun f4 G=>?_) fun f4 G=>?_
   ·refine wp_skip (f3 _ _ ?_)
    refine aA fun i0 f5=>ws fun i1 f6=>xk 7 J rfl fun U J=>?_
    obtain⟨i2,f7,G⟩:=bnd G
    refine x_c aT5 J rfl (kP f7 X :) fun v U w hR J=>?_
    obtain⟨rfl,X⟩:=hR
    refine wn (f6 _ _ ?_)
    refine nz 2 J rfl fun U J=>aC (nk 5 J rfl fun U J=>?_)
    cases G
    exact f5 _ _ ⟨_,e8 _ rfl,J.sub _ rfl,X⟩
   cases G
   exact wp_exit (e5 b5 b6 (e9 _ rfl) U w (J.sub _ rfl) X)
  cases G
  exact wp_exit (c9 b3 (d2 _ rfl) U w (J.sub _ rfl) X)
 obtain⟨f8,f9,G⟩:=bnd G
 have g0:∀I S,(I,S)=f8→∀U w,FR 63 [] U [(0,.slice A0 n0 c0),(1,.int .i64 a1),(2,.func (.func 57) #[] #[]),(6,.int .i64 20),(7,.int .i64 S)]→SH r (own k47 47 A0 n0 c0 I::L) w→a8 U w:=by
  intro I S ht U w J X
  subst ht
  replace G:eI a1 I S=some y:=G
  unfold eI at G
  exact hb1 I S G U w (J.sub _ rfl) X
 refine aD f9 (fun s U w=>FR 63 [] U [(0,.slice A0 n0 c0),(1,.int .i64 a1),(2,.func (.func 57) #[] #[]),(6,.int .i64 20),(7,.int .i64 s.2.1),(8,.int .i64 s.2.2)]∧SH r (own k47 47 A0 n0 c0 s.1::L) w) ⟨J.sub _ rfl,X⟩ ?_
 intro i3 g1 g2 G g3 g4 U w hLab
 obtain⟨b7,b8,g5⟩:=g1
 replace G:bW a1 b7 b8 g5=some g2:=G
 unfold bW at G
 try dsimp only at hLab
 obtain⟨J,X⟩:=hLab
 refine wp_seq_k fun i4 g6=>nz 3 J rfl fun U J=>bB J G rfl (fun g7 G=>?_) fun g7 G=>?_
 ·refine wp_skip (g6 _ _ ?_)
  refine aA fun i5 g8=>ws fun i6 g9=>xk 4 J rfl fun U J=>?_
  obtain⟨i7,h0,G⟩:=bnd G
  refine x_c aZ2 J rfl (iX h0 X :) fun v U w hR J=>?_
  obtain⟨rfl,X⟩:=hR
  refine wn (g9 _ _ ?_)
  refine nz 2 J rfl fun U J=>aC (nk 4 J rfl fun U J=>?_)
  cases G
  exact g8 _ _ ⟨_,g3 _ rfl,J.sub _ rfl,X⟩
 cases G
 exact wp_exit (g0 b7 b8 (g4 _ rfl) U w (J.sub _ rfl) X)
theorem nI {a0 A0 n0 c0 y} (G:dB a0=some y) (X:SH r (own k47 47 A0 n0 c0 a0::L) w) :
  Ret Tryz.prog 56 #[.slice A0 n0 c0,.func (.func 57) #[] #[]] w fun v w'=>v=.tuple #[]∧SH r (own k47 47 A0 n0 c0 y::L) w':=by
 refine enter Tryz.func56 rfl Tryz.ntmps56 [(0,_),(1,_)] rfl (by simp) ?_
 intro U J Qf hQ hQn
 unfold dB at G
 refine aC (xk 2 J rfl fun U J=>?_)
 refine aX eT (X.rd 0 rfl).2.1 J (fun U J=>?_) rfl
 refine x_m J rfl fun U J=>?_
 obtain⟨z,h,G⟩:=bnd G
 refine x_c bBe J rfl (tD h X :) fun v U w hR J=>?_
 obtain⟨rfl,X⟩:=hR
 refine wpList_nil ?_
 cases G
 refine hQn _ _ (aB1 Tryz.results56 J ?_)
 exact⟨rfl,X⟩
theorem aIt {a0 A0 n0 c0 y} (G:wV a0=some y) (X:SH r (L) w) (ha0:RdL L k47 A0 n0 c0 a0) :
  Ret Tryz.prog 42 #[.slice A0 n0 c0] w fun v w'=>∃ (B0:Option Addr) (m0:Nat) (d0:Nat),v=.slice B0 m0 d0∧SH r (own k47 47 B0 m0 d0 y::L) w':=by
 refine enter Tryz.func42 rfl Tryz.ntmps42 [(0,_)] rfl (by simp) ?_
 intro U J Qf hQ hQn
 unfold wV at G
 refine nz 1 J rfl fun U J=>ws fun a1 h=>xk 1 J rfl fun U J=>?_
 obtain⟨a2,z,G⟩:=bnd G
 refine x_c bCi J rfl (rJ z X (RdL.sfx 0 rfl ha0) :) fun v U w hR J=>?_
 obtain⟨C,H,I,rfl,X⟩:=hR
 refine x_m J rfl fun U J=>wn (h _ _ ?_)
 refine ws fun a3 S=>xk 1 J rfl fun U J=>?_
 obtain⟨a4,Y,G⟩:=bnd G
 refine x_c bBp J rfl (nI Y X :) fun v U w hR J=>?_
 obtain⟨rfl,X⟩:=hR
 refine wn (S _ _ ?_)
 refine nz 2 J rfl fun U J=>?_
 cases G
 refine wp_ret (hQ _ _ ?_)
 exact lv Tryz.results42 J rfl ⟨C,H,I,rfl,X⟩
end
noncomputable section
set_option linter.unusedSimpArgs false
def wT (a0:S47) (a1:S47):Option (Bool) :=
  if (!(a0.f3==a1.f3))=true then (some (Op.bytesLess a0.f3 a1.f3)) else (if (a0.f2 != a1.f2)=true then (some (decide (a0.f2<a1.f2))) else (some (decide (a0.f0<a1.f0))))
def aAd (h:(List S47)):Option ((List S47)) :=
  some h
def xK (h:(List S47)):Option ((List S47)) :=
  aAd h
def xF (a0:(List S47)) (z:(List S47)) (G:Int) (H:Int):Option (((List S47)×Int)⊕(((List S47)))) :=
  (oO z 0 H).bind fun h=>(chk (([]:List S47).length+h.length≤140737488355328 / 48) ((at_ a0 G).bind fun C=>(chk (h.length+[C].length≤140737488355328 / 48) ((oO z H (z.length:Int)).bind fun I=>(chk ((h++[C]).length+I.length≤140737488355328 / 48) (some (.inl ((h++[C])++I,IntKind.i64.wrap (G+1)))))))))
def uE (a0:(List S47)) (h:(List S47)) (z:Int) (C:Int):Option (((List S47)×Int)⊕(((List S47)))) :=
  xF a0 h z C
def rN (h:Int) (z:Bool):Option ((Int)⊕((Int))) :=
  if z=true then (some (.inl (IntKind.i64.wrap (h - 1)))) else (some (.inr (h)))
def uO (a0:(List S47)) (z:(List S47)) (C:Int) (h:Int):Option ((Int)⊕((Int))) :=
  if (decide (0<h))=true then ((at_ a0 C).bind fun G=>((at_ z (IntKind.i64.wrap (h - 1))).bind fun H=>((wT G H).bind fun I=>(rN h I)))) else (rN h false)
def nK (a0:(List S47)) (h:(List S47)) (z:Int):Option (((List S47)×Int)⊕(((List S47)))) :=
  if (decide (z<(a0.length:Int)))=true then ((loop (fun s=>uO a0 h z s) ((h.length:Int))).bind fun t=>uE a0 h z t) else (some (.inr (h)))
def zP (a0:(List S47)):Option ((List S47)) :=
  (loop (fun s=>nK a0 s.1 s.2) ([],0)).bind fun t=>xK t
end
section
variable {r:World} {L:List HP} {w:World} {Z:Nat→Prop} {wz:World}
theorem aJj {a0 a1 y} (G:wT a0 a1=some y) (X:SH r (L) w) :
  Ret Tryz.prog 31 #[.agg #[.int .u64 a0.f0,.int .i64 a0.f1,.int .i64 a0.f2,str a0.f3,.float .f64 a0.f4],.agg #[.int .u64 a1.f0,.int .i64 a1.f1,.int .i64 a1.f2,str a1.f3,.float .f64 a1.f4]] w fun v w'=>v=.bool y∧SH r (L) w':=by
 refine enter Tryz.func31 rfl Tryz.ntmps31 [(0,_),(1,_)] rfl (by simp) ?_
 intro U J Qf hQ hQn
 unfold wT at G
 refine ws fun a5 h=>nY J X (fun a6 U w X J=>?_) rfl
 refine nY J X (fun a7 U w X J=>?_) rfl
 refine x_m J rfl fun U J=>wn (h _ _ ?_)
 refine wp_seq_k fun a8 z=>ws fun a9 C=>aL tU J (fun U J=>?_) rfl
 refine aI uu9 (X.cell 1 rfl 3 _ rfl) J (fun U J=>?_) rfl
 refine aL tU J (fun U J=>?_) rfl
 refine aI uu9 (X.cell 0 rfl 3 _ rfl) J (fun U J=>?_) rfl
 refine x_v J (aJy rfl (J.ev rfl) (J.ev rfl)) rfl fun U J=>wn (C _ _ ?_)
 refine bB J G rfl (fun H G=>?_) fun H G=>?_
 ·refine ws fun b3 I=>aL tU J (fun U J=>?_) rfl
  refine aI uu9 (X.cell 1 rfl 3 _ rfl) J (fun U J=>?_) rfl
  refine aL tU J (fun U J=>?_) rfl
  refine aI uu9 (X.cell 0 rfl 3 _ rfl) J (fun U J=>?_) rfl
  refine x_v J (aG6 rfl (J.ev rfl) (J.ev rfl)) rfl fun U J=>x_m J rfl fun U J=>wn (I _ _ ?_)
  replace X:=X.drop 0 |>.drop 0
  cases G
  refine wp_ret (hQ _ _ ?_)
  exact lv Tryz.results31 J rfl ⟨rfl,X⟩
 refine wp_skip (z _ _ ?_)
 refine wp_seq_k fun b4 S=>ws fun b5 Y=>aL jN J (fun U J=>?_) rfl
 refine aI uu2 (X.cell 1 rfl 2 _ rfl) J (fun U J=>?_) rfl
 refine aL jN J (fun U J=>?_) rfl
 refine aI uu2 (X.cell 0 rfl 2 _ rfl) J (fun U J=>?_) rfl
 refine nk 1 J rfl fun U J=>Y _ _ (bB J G rfl (fun a2 G=>?_) fun a2 G=>?_)
 ·refine ws fun b6 a3=>aL jN J (fun U J=>?_) rfl
  refine aI uu2 (X.cell 1 rfl 2 _ rfl) J (fun U J=>?_) rfl
  refine aL jN J (fun U J=>?_) rfl
  refine aI uu2 (X.cell 0 rfl 2 _ rfl) J (fun U J=>?_) rfl
  refine nk 2 J rfl fun U J=>?_
  replace X:=X.drop 0 |>.drop 0
  cases G
  refine a3 _ _ (wp_ret ?_)
  refine hQ _ _ (lv Tryz.results31 J rfl ?_)
  exact⟨rfl,X⟩
 refine wp_skip (S _ _ ?_)
 refine ws fun b7 a4=>aL uX J (fun U J=>?_) rfl
 refine aI mD (X.cell 1 rfl 0 _ rfl) J (fun U J=>?_) rfl
 refine aL uX J (fun U J=>?_) rfl
 refine aI mD (X.cell 0 rfl 0 _ rfl) J (fun U J=>?_) rfl
 refine nk 2 J rfl fun U J=>?_
 replace X:=X.drop 0 |>.drop 0
 cases G
 refine a4 _ _ (wp_ret ?_)
 refine hQ _ _ (lv Tryz.results31 J rfl ?_)
 exact⟨rfl,X⟩
theorem aMk {a0 A0 n0 c0 y} (G:zP a0=some y) (X:SH r (L) w) (ha0:RdL L k47 A0 n0 c0 a0) :
  Ret Tryz.prog 15 #[.slice A0 n0 c0] w fun v w'=>∃ (B0:Option Addr) (m0:Nat) (d0:Nat),v=.slice B0 m0 d0∧SH r (own k47 47 B0 m0 d0 y::L) w':=by
 refine enter Tryz.func15 rfl Tryz.ntmps15 [(0,_)] rfl (by simp) ?_
 intro U J Qf hQ hQn
 unfold zP at G
 refine nz 1 J rfl fun U J=>nz 1 J rfl fun U J=>wp_seq_k fun h7 d3=>nz 1 J rfl fun U J=>aA fun c6 d4=>?_
 have hb1:∀b6,aAd b6=some y→∀a7 a8 a9 U w,FR 49 [] U [(3,.slice a7 a8 a9)]→SH r (own k47 47 a7 a8 a9 b6::L) w→c6 U w:=by
  intro b6 G a7 a8 a9 U w J X
  unfold aAd at G
  refine d4 _ _ (d3 _ _ ?_)
  refine nz 2 J rfl fun U J=>?_
  cases G
  refine wp_ret (hQ _ _ ?_)
  exact lv Tryz.results15 J rfl ⟨a7,a8,a9,rfl,X⟩
 obtain⟨d5,d6,G⟩:=bnd G
 have d7:∀a5,(a5)=d5→∀b3 b4 b5 U w,FR 49 [] U [(3,.slice b3 b4 b5)]→SH r (own k47 47 b3 b4 b5 a5::L) w→c6 U w:=by
  intro a5 ht b3 b4 b5 U w J X
  subst ht
  replace G:xK a5=some y:=G
  unfold xK at G
  exact hb1 a5 G b3 b4 b5 U w (J.sub _ rfl) X
 replace X:=SH.nil_own (d:=k47) (e:=47) X
 refine aD d6 (fun s U w=>∃I S Y,FR 49 [] U [(0,.slice A0 n0 c0),(3,.slice I S Y),(4,.int .i64 s.2)]∧SH r (own k47 47 I S Y s.1::L) w) ⟨none,0,0,J.sub _ rfl,X⟩ ?_
 intro h8 d8 b7 G d9 e0 U w hLab
 obtain⟨a4,a3⟩:=d8
 replace G:nK a0 a4 a3=some b7:=G
 unfold nK at G
 try dsimp only at hLab
 obtain⟨I,S,Y,J,X⟩:=hLab
 refine wp_seq_k fun h9 e1=>ws fun i0 e2=>xk 2 J rfl fun U J=>aX eT (X.rdl 1 ha0 rfl).2.1 J (fun U J=>?_) rfl
 refine nk 1 J rfl fun U J=>e2 _ _ (bB J G rfl (fun e3 G=>?_) fun e3 G=>?_)
 ·refine wp_skip (e1 _ _ ?_)
  refine wp_seq_k fun i1 e4=>aA fun i2 e5=>ws fun i3 e6=>xk 1 J rfl fun U J=>aX eT (X.rd 0 rfl).2.1 J (fun U J=>?_) rfl
  refine x_m J rfl fun U J=>wn (e6 _ _ ?_)
  refine wp_seq_k fun i4 e7=>aA fun c7 e8=>?_
  have hb2:∀b8,xF a0 a4 a3 b8=some b7→∀U w,FR 49 [] U [(0,.slice A0 n0 c0),(3,.slice I S Y),(4,.int .i64 a3),(5,.int .i64 b8)]→SH r (own k47 47 I S Y a4::L) w→c7 U w:=by
   intro b8 G U w J X
   unfold xF at G
   refine e8 _ _ (e7 _ _ ?_)
   refine nz 1 J rfl fun U J=>ws fun i5 e9=>xk 3 J rfl fun U J=>?_
   obtain⟨i6,b9,G⟩:=bnd G
   refine x_v J (wC eT cI rfl (J.ev rfl) (J.ev rfl) (sF (X.rd 0 rfl) b9).2.2.2.2.1 (sF (X.rd 0 rfl) b9).2.2.1) rfl fun U J=>?_
   replace X:=SH.nil_own (d:=k47) (e:=47) X
   obtain⟨f5,G⟩:=aB G
   have hr:=aXm (X.rd 1 rfl) b9
   refine gG 0 aB8 eT J X hr.1 hr.2.1 f5 rfl (fun i7 i8 i9 U w X J=>?_) rfl
   rw [List.nil_append] at X
   refine x_m J rfl fun U J=>wn (e9 _ _ ?_)
   refine ws fun j0 f6=>xk 3 J rfl fun U J=>?_
   obtain⟨H,c8,G⟩:=bnd G
   refine fO eT cI (X.rdl 2 ha0 rfl) c8 J (fun U J=>?_) rfl
   obtain⟨cs,hV,f7⟩:=el (X.rdl 2 ha0 rfl) c8
   obtain rfl:=hV
   refine nF (cs:=[.int .u64 H.f0,.int .i64 H.f1,.int .i64 H.f2,str H.f3,.float .f64 H.f4]) mG cI (fun j u h=>by rw [fG]; exact f7 _ _ h) J (fun U J=>?_) rfl
   refine gV (d:=k47) (e:=47) (ps:=#[(0,.agg #[.int .u64 H.f0,.int .i64 H.f1,.int .i64 H.f2,str H.f3,.float .f64 H.f4])]) (cells:=[.int .u64 H.f0,.int .i64 H.f1,.int .i64 H.f2,str H.f3,.float .f64 H.f4]) (xs:=[H]) (fun w=>by kernel_rfl) rfl ⟨[.int .u64 H.f0,.int .i64 H.f1,.int .i64 H.f2,str H.f3,.float .f64 H.f4],_,rfl,rfl,rfl⟩ J X (fun j1 U w X J=>?_) rfl
   obtain⟨f8,G⟩:=aB G
   have hr:=X.rd 0 rfl
   refine gG 1 aB8 eT J X hr.1 hr.2.1 f8 rfl (fun j2 j3 j4 U w X J=>?_) rfl
   refine x_m J rfl fun U J=>wn (f6 _ _ ?_)
   refine aC (xk 3 J rfl fun U J=>?_)
   obtain⟨j5,c3,G⟩:=bnd G
   refine x_v J (kJ eT cI rfl (J.ev rfl) (J.ev rfl) (sF (X.rd 2 rfl) c3).1 (sF (X.rd 2 rfl) c3).2.2.2.2.2) rfl fun U J=>?_
   obtain⟨f9,G⟩:=aB G
   have hr:=aWl (X.rd 2 rfl) c3
   refine gG 0 aB8 eT J X hr.1 hr.2.1 f9 rfl (fun g0 g1 g2 U w X J=>?_) rfl
   refine x_m J rfl fun U J=>wpList_nil (e5 _ _ ?_)
   refine e4 _ _ (aC ?_)
   refine nk 3 J rfl fun U J=>?_
   replace X:=X.drop 1 |>.drop 1
   cases G
   exact⟨_,d9 _ rfl,g0,g1,g2,J.sub _ rfl,X⟩
  obtain⟨g3,g4,G⟩:=bnd G
  have g5:∀a6,(a6)=g3→∀U w,FR 49 [] U [(0,.slice A0 n0 c0),(3,.slice I S Y),(4,.int .i64 a3),(5,.int .i64 a6)]→SH r (own k47 47 I S Y a4::L) w→c7 U w:=by
   intro a6 ht U w J X
   subst ht
   replace G:uE a0 a4 a3 a6=some b7:=G
   unfold uE at G
   exact hb2 a6 G U w (J.sub _ rfl) X
  refine aD g4 (fun s U w=>FR 49 [] U [(0,.slice A0 n0 c0),(3,.slice I S Y),(4,.int .i64 a3),(5,.int .i64 s)]∧SH r (own k47 47 I S Y a4::L) w) ⟨J.sub _ rfl,X⟩ ?_
  intro j6 g6 c9 G g7 g8 U w hLab
  obtain⟨z,rfl⟩:∃ q,q=g6:=⟨_,rfl⟩
  replace G:uO a0 a4 a3 z=some c9:=G
  unfold uO at G
  try dsimp only at hLab
  obtain⟨J,X⟩:=hLab
  refine wp_seq_k fun j7 g9=>wp_seq_k fun h0 h1=>?_
  have hj1:∀c4,rN z c4=some c9→∀U w,FR 49 [] U [(0,.slice A0 n0 c0),(3,.slice I S Y),(4,.int .i64 a3),(5,.int .i64 z),(28,.bool c4)]→SH r (own k47 47 I S Y a4::L) w→h0 U w:=by
   intro c4 G U w J X
   unfold rN at G
   refine h1 _ _ (bB J G rfl (fun h2 G=>?_) fun h2 G=>?_)
   ·refine wp_skip (g9 _ _ ?_)
    refine aA fun j8 h3=>aC (nk 3 J rfl fun U J=>?_)
    cases G
    exact h3 _ _ ⟨_,g7 _ rfl,J.sub _ rfl,X⟩
   cases G
   exact wp_exit (g5 z (g8 _ rfl) U w (J.sub _ rfl) X)
  refine cN [0,1,3,7,7,31,63,7,7,263,903,1927,4095,8191] [12] rfl J X (by kernel_rfl) (by kernel_rfl) (by kernel_rfl) (by kernel_rfl) fun w X=>bcG G (fun C G=>?_) fun C G=>?_
  ·obtain⟨a1,d1,G⟩:=bnd G
   obtain⟨cs,hV,h4⟩:=el (X.rdl 1 ha0 rfl) d1
   obtain rfl:=hV
   obtain⟨a2,d2,G⟩:=bnd G
   obtain⟨cs,hV,h5⟩:=el (X.rd 0 rfl) d2
   obtain rfl:=hV
   refine⟨[(0,.int .i64 z),(1,.bool (decide (0<z))),(2,.bool (decide (0<z))),(3,.slice A0 n0 c0),(4,.int .i64 a3),(5,.pointer (some (ea A0 (a3.toNat * 5)))),(6,.agg #[.int .u64 a1.f0,.int .i64 a1.f1,.int .i64 a1.f2,str a1.f3,.float .f64 a1.f4]),(7,.slice I S Y),(8,.int .i64 z),(9,.int .i64 (IntKind.i64.wrap (z - 1))),(10,.pointer (some (ea I ((IntKind.i64.wrap (z - 1)).toNat * 5)))),(11,.agg #[.int .u64 a2.f0,.int .i64 a2.f1,.int .i64 a2.f2,str a2.f3,.float .f64 a2.f4])],?_⟩
   refine dF [0,1,2,3,4,5,6,7,8,9,10,11] [12] (by kernel_rfl) ⟨pm rfl,pt [(15,_)] rfl (fun U J=>aA9 rfl (J.ev rfl) (J.ev rfl)),pm rfl,iH rfl rfl rfl rfl [(0,.slice A0 n0 c0),(17,.bool (decide (0<z)))] rfl C (fun U J=>mH J rfl rfl) rfl,iH rfl rfl rfl rfl [(4,.int .i64 a3),(17,.bool (decide (0<z)))] rfl C (fun U J=>mH J rfl rfl) rfl,iH rfl rfl rfl rfl [(17,.bool (decide (0<z))),(18,.slice A0 n0 c0),(19,.int .i64 a3)] rfl C (fun U J=>fH eT cI (X.rdl 1 ha0 rfl) d1 J rfl rfl rfl) rfl,iH rfl rfl rfl rfl [(17,.bool (decide (0<z))),(20,.pointer (some (ea A0 (a3.toNat * 5))))] rfl C (fun U J=>nJ (cs:=[.int .u64 a1.f0,.int .i64 a1.f1,.int .i64 a1.f2,str a1.f3,.float .f64 a1.f4]) mG cI (fun j u h=>by rw [fG]; exact h4 _ _ h) J rfl rfl rfl) rfl,iH rfl rfl rfl rfl [(3,.slice I S Y),(17,.bool (decide (0<z)))] rfl C (fun U J=>mH J rfl rfl) rfl,iH rfl rfl rfl rfl [(5,.int .i64 z),(17,.bool (decide (0<z)))] rfl C (fun U J=>mH J rfl rfl) rfl,iH rfl rfl rfl rfl [(17,.bool (decide (0<z))),(23,.int .i64 z)] rfl C (fun U J=>oY rfl (J.ev rfl) (J.ev rfl)) rfl,iH rfl rfl rfl rfl [(17,.bool (decide (0<z))),(22,.slice I S Y),(24,.int .i64 (IntKind.i64.wrap (z - 1)))] rfl C (fun U J=>fH eT cI (X.rd 0 rfl) d2 J rfl rfl rfl) rfl,iH rfl rfl rfl rfl [(17,.bool (decide (0<z))),(25,.pointer (some (ea I ((IntKind.i64.wrap (z - 1)).toNat * 5))))] rfl C (fun U J=>nJ (cs:=[.int .u64 a2.f0,.int .i64 a2.f1,.int .i64 a2.f2,str a2.f3,.float .f64 a2.f4]) mG cI (fun j u h=>by rw [fG]; exact h5 _ _ h) J rfl rfl rfl) rfl,trivial⟩ ⟨aX9 rfl rfl rfl [(17,.bool (decide (0<z))),(21,.agg #[.int .u64 a1.f0,.int .i64 a1.f1,.int .i64 a1.f2,str a1.f3,.float .f64 a1.f4]),(26,.agg #[.int .u64 a2.f0,.int .i64 a2.f1,.int .i64 a2.f2,str a2.f3,.float .f64 a2.f4])] rfl C (fun U J K hK=>?_) rfl,trivial⟩
   obtain⟨c5,h6,G⟩:=bnd G
   refine nQ bB4 J (aJj h6 X :) (fun v w hR=>?_) rfl
   obtain⟨rfl,X⟩:=hR
   refine hK _ [(13,.bool c5)] _ rfl (gM [13] (by kernel_rfl) ⟨pt [(17,.bool (decide (0<z))),(27,.bool c5)] rfl (fun U J=>aAw C J rfl rfl rfl),trivial⟩ ⟨by kernel_rfl,by kernel_rfl⟩ [(0,_),(3,_),(4,_),(5,_),(18,_),(19,_),(21,_),(22,_),(23,_),(24,_),(26,_),(27,_),(28,_)] rfl (fun U J=>?_))
   exact hj1 c5 G U w (J.sub _ rfl) X
  refine⟨[(0,.int .i64 z),(1,.bool (decide (0<z))),(2,.bool (decide (0<z))),(3,undef),(4,undef),(5,undef),(6,undef),(7,undef),(8,undef),(9,undef),(10,undef),(11,undef)],?_⟩
  refine dF [0,1,2,3,4,5,6,7,8,9,10,11] [12] (by kernel_rfl) ⟨pm rfl,pt [(15,_)] rfl (fun U J=>aA9 rfl (J.ev rfl) (J.ev rfl)),pm rfl,eG rfl rfl rfl rfl [(0,.slice A0 n0 c0),(17,.bool (decide (0<z)))] rfl C rfl,eG rfl rfl rfl rfl [(4,.int .i64 a3),(17,.bool (decide (0<z)))] rfl C rfl,eG rfl rfl rfl rfl [(17,.bool (decide (0<z))),(18,undef),(19,undef)] rfl C rfl,eG rfl rfl rfl rfl [(17,.bool (decide (0<z))),(20,undef)] rfl C rfl,eG rfl rfl rfl rfl [(3,.slice I S Y),(17,.bool (decide (0<z)))] rfl C rfl,eG rfl rfl rfl rfl [(5,.int .i64 z),(17,.bool (decide (0<z)))] rfl C rfl,eG rfl rfl rfl rfl [(17,.bool (decide (0<z))),(23,undef)] rfl C rfl,eG rfl rfl rfl rfl [(17,.bool (decide (0<z))),(22,undef),(24,undef)] rfl C rfl,eG rfl rfl rfl rfl [(17,.bool (decide (0<z))),(25,undef)] rfl C rfl,trivial⟩ ⟨?_,trivial⟩
  refine aU3 rfl rfl rfl [(17,.bool (decide (0<z))),(21,undef),(26,undef)] rfl [(13,.bool false)] C rfl ?_ rfl
  refine gM [13] (by kernel_rfl) ⟨pt [(17,.bool (decide (0<z))),(27,undef)] rfl (fun U J=>yN C J rfl rfl rfl),trivial⟩ ⟨by kernel_rfl,by kernel_rfl⟩ [(0,_),(3,_),(4,_),(5,_),(28,_)] rfl (fun U J=>?_)
  exact hj1 false G U w (J.sub _ rfl) X
 cases G
 exact wp_exit (d7 a4 (e0 _ rfl) I S Y U w (J.sub _ rfl) X)
end
noncomputable section
set_option linter.unusedSimpArgs false
def jT (a0:S151) (a1:Int) (a2:Int) (h:(List S47)) (z:(List S47)) (H:Bool):Option (Bool×S151) :=
  if H=true then (if (decide (0<(h.length:Int)))=true then (some (true,a0)) else (if ((z.length:Int)==0)=true then (some (decide (a1<a2),a0)) else (some (false,a0)))) else ((at_ h 0).bind fun C=>((at_ z 0).bind fun G=>((nN C G).bind fun I=>(if I=true then (some (true,a0)) else ((nN G C).bind fun J=>(if J=true then (some (false,a0)) else (some (decide (a1<a2),a0))))))))
def kH (a0:S151) (a1:Int) (a2:Int):Option (Bool×S151) :=
  (at_ a0.f0 a1).bind fun h=>((at_ a0.f0 a2).bind fun z=>(if ((h.length:Int)==0)=true then (jT a0 a1 a2 h z true) else (jT a0 a1 a2 h z ((z.length:Int)==0))))
def vZ (a0:(List (List S47))) (z:(List (List S47))) (h:(List Int)) (C:(List Int)):Option ((Option S151)×Int) :=
  (at_ C (if IntKind.i64.wrap ((IntKind.i64.wrap (2 * (a0.length:Int))) - 1)<1 then IntKind.i64.wrap ((IntKind.i64.wrap (2 * (a0.length:Int))) - 1) else 1)).bind fun G=>((at_ h 0).bind fun H=>(some (some (⟨z,h.set (0:Int).toNat G⟩:S151),0)))
def tC (a0:(List (List S47))) (h:(List (List S47))) (z:(List Int)) (C:(List Int)):Option ((Option S151)×Int) :=
  vZ a0 h z C
def sZ (z:(List Int)) (h:Int) (G:(List (List S47))) (C:(List Int)) (H:Int) (I:Int):Option (((List (List S47))×(List Int)×(List Int)×Int)⊕(((List (List S47))×(List Int)×(List Int)))) :=
  (at_ z h).bind fun J=>((at_ C h).bind fun S=>(some (.inl (G,C.set h.toNat I,z.set h.toNat H,IntKind.i64.wrap (h - 1)))))
def mB (I:(List (List S47))) (J:(List Int)) (h:(List Int)) (z:Int):Option (((List (List S47))×(List Int)×(List Int)×Int)⊕(((List (List S47))×(List Int)×(List Int)))) :=
  if (decide (0<z))=true then ((at_ h (IntKind.i64.wrap (2 * z))).bind fun G=>((at_ h (IntKind.i64.wrap ((IntKind.i64.wrap (2 * z))+1))).bind fun H=>((kH (⟨I,J⟩:S151) H G).bind fun C=>(if C.1=true then (sZ h z C.2.f0 C.2.f1 H G) else (sZ h z C.2.f0 C.2.f1 G H))))) else (some (.inr (I,J,h)))
def vY (a0:(List (List S47))) (h:(List (List S47))) (z:(List Int)):Option ((Option S151)×Int) :=
  (loop (fun s=>mB s.1 s.2.1 s.2.2.1 s.2.2.2) (h,List.replicate (a0.length:Int).toNat (0:Int),z,IntKind.i64.wrap ((a0.length:Int) - 1))).bind fun t=>tC a0 t.1 t.2.1 t.2.2
def sU (a0:(List (List S47))) (h:(List (List S47))) (z:(List Int)):Option ((Option S151)×Int) :=
  vY a0 h z
def lY (a0:(List (List S47))) (z:(List Int)) (h:Int):Option (((List Int)×Int)⊕(((List Int)))) :=
  if (decide (h<(a0.length:Int)))=true then ((at_ z (IntKind.i64.wrap ((a0.length:Int)+h))).bind fun C=>(some (.inl (z.set (IntKind.i64.wrap ((a0.length:Int)+h)).toNat h,IntKind.i64.wrap (h+1))))) else (some (.inr (z)))
def vP (a0:(List (List S47))) (h:(List (List S47))):Option ((Option S151)×Int) :=
  chk (0≤(a0.length:Int)∧(8:Int) * (a0.length:Int)≤140737488355328) (chk (0≤(IntKind.i64.wrap (2 * (a0.length:Int)))∧(8:Int) * (IntKind.i64.wrap (2 * (a0.length:Int)))≤140737488355328) ((loop (fun s=>lY a0 s.1 s.2) (List.replicate (IntKind.i64.wrap (2 * (a0.length:Int))).toNat (0:Int),0)).bind fun t=>sU a0 h t))
def sG (a0:(List (List S47))) (h:(List (List S47))):Option ((Option S151)×Int) :=
  vP a0 h
def vT (h:(List (List S47))) (C:Int) (z:(List S47)):Option (((List (List S47))×Int)⊕(((List (List S47)))⊕((Option S151)×Int))) :=
  chk (h.length+[z].length≤140737488355328 / 24) (some (.inl (h++[z],IntKind.i64.wrap (C+1))))
def sA (h:(List (List S47))) (z:Int) (C:(List S47)):Option (((List (List S47))×Int)⊕(((List (List S47)))⊕((Option S151)×Int))) :=
  vT h z C
def pO (z:(List S47)) (h:Int):Option ((Int)⊕((Unit)⊕((Option S151)×Int))) :=
  if (decide (h<(z.length:Int)))=true then ((at_ z h).bind fun C=>((at_ z (IntKind.i64.wrap (h - 1))).bind fun G=>((nN C G).bind fun H=>(if H=true then (some (.inr (.inr (none,7)))) else (some (.inl (IntKind.i64.wrap (h+1)))))))) else (some (.inr (.inl ())))
def lS (a0:(List (List S47))) (z:(List (List S47))) (h:Int):Option (((List (List S47))×Int)⊕(((List (List S47)))⊕((Option S151)×Int))) :=
  if (decide (h<(a0.length:Int)))=true then ((at_ a0 h).bind fun C=>((loop (fun s=>pO C s) (1)).bind fun t=>match t with | (.inl t)=>sA z h C | (.inr t)=>some (.inr (.inr t)))) else (some (.inr (.inl (z))))
def sE (a0:(List (List S47))) (h:Bool):Option ((Option S151)×Int) :=
  if h=true then (some (none,1)) else ((loop (fun s=>lS a0 s.1 s.2) ([],0)).bind fun t=>match t with | (.inl t)=>sG a0 t | (.inr t)=>some t)
def uA (a0:(List (List S47))):Option ((Option S151)×Int) :=
  if (decide ((a0.length:Int)<1))=true then (sE a0 true) else (sE a0 (decide (16<(a0.length:Int))))
def nP (z:Int) (C:S47) (G:(List (List S47))) (h:(List Int)) (H:Int):Option (S47×Int×Bool×(Option S151)) :=
  (at_ h 0).bind fun I=>(some (C,z,true,some (⟨G,h.set (0:Int).toNat H⟩:S151)))
def lZ (h:Int) (z:S47) (C:(List (List S47))) (G:(List Int)) (H:Int):Option (S47×Int×Bool×(Option S151)) :=
  nP h z C G H
def kT (h:Int) (z:(List (List S47))) (C:(List Int)) (G:Int):Option (((List (List S47))×(List Int)×Int×Int)⊕(((List (List S47))×(List Int)×Int))) :=
  some (.inl (z,C,G,IntKind.i64.wrap (h.tdiv 2)))
def iW (H:(List (List S47))) (G:(List Int)) (C:Int) (h:Int):Option (((List (List S47))×(List Int)×Int×Int)⊕(((List (List S47))×(List Int)×Int))) :=
  if (decide (0<h))=true then ((at_ G h).bind fun I=>((kH (⟨H,G⟩:S151) I C).bind fun z=>(if z.1=true then ((at_ z.2.f1 h).bind fun J=>(kT h z.2.f0 (z.2.f1.set h.toNat C) J)) else (kT h z.2.f0 z.2.f1 C)))) else (some (.inr (H,G,C)))
def iN (a0:(Option S151)):Option (S47×Int×Bool×(Option S151)) :=
  match a0 with | none=>(some ((⟨0,0,0,[],0⟩:S47),0,false,none)) | some h=>((at_ h.f1 0).bind fun z=>((at_ h.f0 z).bind fun C=>(if ((C.length:Int)==0)=true then (some ((⟨0,0,0,[],0⟩:S47),0,false,some h)) else ((at_ C 0).bind fun H=>((oO C 1 (C.length:Int)).bind fun G=>((loop (fun s=>iW s.1 s.2.1 s.2.2.1 s.2.2.2) (h.f0.set z.toNat G,h.f1,z,IntKind.i64.wrap ((IntKind.i64.wrap (z+((h.f0.set z.toNat G).length:Int))).tdiv 2))).bind fun t=>lZ z H t.1 t.2.1 t.2.2))))))
def vI (h:(List S47)):Option ((List S47)×Int) :=
  some (h,0)
def tE (h:(List S47)):Option ((List S47)×Int) :=
  vI h
def rX (S:(Option S151)) (z:(List S47)) (C:Int) (G:Int) (H:Int) (I:(List UInt8)) (J:Nat) (U:Bool):Option (((Option S151)×(List S47)×Int×Int×Int×(List UInt8)×Nat×Bool)⊕(((List S47)))) :=
  if U=true then (chk (z.length+[(⟨C,G,H,I,J⟩:S47)].length≤140737488355328 / 48) ((iN S).bind fun h=>(some (.inl (h.2.2.2,z++[(⟨C,G,H,I,J⟩:S47)],h.1.f0,h.1.f1,h.1.f2,h.1.f3,h.1.f4,h.2.2.1))))) else (some (.inr (z)))
def rO (a0:(List (List S47))):Option ((List S47)×Int) :=
  (uA a0).bind fun z=>(if (z.2 != 0)=true then (some ([],z.2)) else ((iN z.1).bind fun h=>((loop (fun s=>rX s.1 s.2.1 s.2.2.1 s.2.2.2.1 s.2.2.2.2.1 s.2.2.2.2.2.1 s.2.2.2.2.2.2.1 s.2.2.2.2.2.2.2) (h.2.2.2,[],h.1.f0,h.1.f1,h.1.f2,h.1.f3,h.1.f4,h.2.2.1)).bind fun t=>tE t)))
end
end Go.Proofs.YtnefioccdkmegaaGreatDoor.M
