/- Texts of the claim, joined: what it uses of Mes, Dr6, Mr6, Dmg. -/
import Derived.Test.YtnefioccdkmegaaGreatDoorZf
namespace Go.Proofs.YtnefioccdkmegaaGreatDoor.M
open Go Go.RowKit Go.Proofs.YtnefioccdkmegaaGreatDoor.E
set_option linter.unusedVariables false
set_option maxRecDepth 100000
set_option maxHeartbeats 4000000
set_option linter.unusedSimpArgs false
section
variable {r:World} {L:List HP} {w:World} {Z:Nat→Prop} {wz:World}
theorem tB {a0 a1 y} (G:nS a0 a1=some y) (X:SH r (L) w) :
  Ret Tryz.prog 58 #[.agg #[.int .u64 a0.f0,.int .i64 a0.f1,.int .i64 a0.f2,str a0.f3,.float .f64 a0.f4],.agg #[.int .u64 a1.f0,.int .i64 a1.f1,.int .i64 a1.f2,str a1.f3,.float .f64 a1.f4]] w fun v w'=>v=.bool y∧SH r (L) w':=by
 refine enter Tryz.func58 rfl Tryz.ntmps58 [(0,_),(1,_)] rfl (by simp) ?_
 intro U J Qf hQ hQn
 unfold nS at G
 refine ws fun k a=>mY J X (fun l U w X J=>?_) rfl
 refine mY J X (fun m U w X J=>?_) rfl
 refine x_m J rfl fun U J=>wn (a _ _ ?_)
 refine wp_seq_k fun n b=>aA fun o c=>ws fun p d=>aL sL J (fun U J=>?_) rfl
 refine aH uu9 (X.cell 1 rfl 3 _ rfl) J (fun U J=>?_) rfl
 refine aL sL J (fun U J=>?_) rfl
 refine aH uu9 (X.cell 0 rfl 3 _ rfl) J (fun U J=>?_) rfl
 refine x_v J (aLe rfl (J.ev rfl) (J.ev rfl)) rfl fun U J=>x_m J rfl fun U J=>wn (d _ _ ?_)
 refine bA J G rfl (fun e G=>?_) fun e G=>?_
 ·refine ws fun q f=>aL sL J (fun U J=>?_) rfl
  refine aH uu9 (X.cell 1 rfl 3 _ rfl) J (fun U J=>?_) rfl
  refine aL sL J (fun U J=>?_) rfl
  refine aH uu9 (X.cell 0 rfl 3 _ rfl) J (fun U J=>?_) rfl
  refine x_v J (aHp rfl (J.ev rfl) (J.ev rfl)) rfl fun U J=>x_m J rfl fun U J=>wn (f _ _ ?_)
  replace X:=X.drop 0 |>.drop 0
  cases G
  refine wp_ret (hQ _ _ ?_)
  exact lv Tryz.results58 J rfl ⟨rfl,X⟩
 refine ws fun s g=>aL iR J (fun U J=>?_) rfl
 refine aH uu2 (X.cell 1 rfl 2 _ rfl) J (fun U J=>?_) rfl
 refine aL iR J (fun U J=>?_) rfl
 refine aH uu2 (X.cell 0 rfl 2 _ rfl) J (fun U J=>?_) rfl
 refine nk 2 J rfl fun U J=>g _ _ (bA J G rfl (fun h G=>?_) fun h G=>?_)
 ·refine ws fun t i=>aL iR J (fun U J=>?_) rfl
  refine aH uu2 (X.cell 1 rfl 2 _ rfl) J (fun U J=>?_) rfl
  refine aL iR J (fun U J=>?_) rfl
  refine aH uu2 (X.cell 0 rfl 2 _ rfl) J (fun U J=>?_) rfl
  refine nk 2 J rfl fun U J=>?_
  replace X:=X.drop 0 |>.drop 0
  cases G
  refine i _ _ (wp_ret ?_)
  refine hQ _ _ (lv Tryz.results58 J rfl ?_)
  exact⟨rfl,X⟩
 refine wp_skip (c _ _ ?_)
 refine b _ _ (ws fun u j=>?_)
 refine aL uD J (fun U J=>?_) rfl
 refine aH mE (X.cell 1 rfl 0 _ rfl) J (fun U J=>?_) rfl
 refine aL uD J (fun U J=>?_) rfl
 refine aH mE (X.cell 0 rfl 0 _ rfl) J (fun U J=>?_) rfl
 refine nk 2 J rfl fun U J=>?_
 replace X:=X.drop 0 |>.drop 0
 cases G
 refine j _ _ (wp_ret ?_)
 refine hQ _ _ (lv Tryz.results58 J rfl ?_)
 exact⟨rfl,X⟩
theorem sK {a0 a1 y} (G:iZ a0 a1=some y) (X:SH r (L) w) :
  Ret Tryz.prog 57 #[.agg #[.int .u64 a0.f0,.int .i64 a0.f1,.int .i64 a0.f2,str a0.f3,.float .f64 a0.f4],.agg #[.int .u64 a1.f0,.int .i64 a1.f1,.int .i64 a1.f2,str a1.f3,.float .f64 a1.f4]] w fun v w'=>v=.int .i64 y∧SH r (L) w':=by
 refine enter Tryz.func57 rfl Tryz.ntmps57 [(0,_),(1,_)] rfl (by simp) ?_
 intro U J Qf hQ hQn
 unfold iZ at G
 refine ws fun n c=>mY J X (fun a U w X J=>?_) rfl
 refine mY J X (fun b U w X J=>?_) rfl
 refine x_m J rfl fun U J=>wn (c _ _ ?_)
 refine wp_seq_k fun o d=>aA fun p e=>ws fun q f=>lH (ad:=⟨a,0,none⟩) (cs:=[.int .u64 a0.f0,.int .i64 a0.f1,.int .i64 a0.f2,str a0.f3,.float .f64 a0.f4]) lL cH (fun j u h=>by rw [nF,Nat.zero_add]; exact X.cell 1 rfl j u h) J (fun U J=>?_) rfl
 refine lH (ad:=⟨b,0,none⟩) (cs:=[.int .u64 a1.f0,.int .i64 a1.f1,.int .i64 a1.f2,str a1.f3,.float .f64 a1.f4]) lL cH (fun j u h=>by rw [nF,Nat.zero_add]; exact X.cell 0 rfl j u h) J (fun U J=>?_) rfl
 obtain⟨s,g,G⟩:=bnd G
 refine x_c aQ2 J rfl (tB g X :) fun v U w hR J=>?_
 obtain⟨rfl,X⟩:=hR
 refine x_m J rfl fun U J=>wn (f _ _ ?_)
 refine bA J G rfl (fun i G=>?_) fun i G=>?_
 ·refine nz 1 J rfl fun U J=>?_
  replace X:=X.drop 0 |>.drop 0
  cases G
  refine wp_ret (hQ _ _ ?_)
  exact lv Tryz.results57 J rfl ⟨rfl,X⟩
 refine ws fun t k=>lH (ad:=⟨b,0,none⟩) (cs:=[.int .u64 a1.f0,.int .i64 a1.f1,.int .i64 a1.f2,str a1.f3,.float .f64 a1.f4]) lL cH (fun j u h=>by rw [nF,Nat.zero_add]; exact X.cell 0 rfl j u h) J (fun U J=>?_) rfl
 refine lH (ad:=⟨a,0,none⟩) (cs:=[.int .u64 a0.f0,.int .i64 a0.f1,.int .i64 a0.f2,str a0.f3,.float .f64 a0.f4]) lL cH (fun j u h=>by rw [nF,Nat.zero_add]; exact X.cell 1 rfl j u h) J (fun U J=>?_) rfl
 obtain⟨x,l,G⟩:=bnd G
 refine x_c aQ2 J rfl (tB l X :) fun v U w hR J=>?_
 obtain⟨rfl,X⟩:=hR
 refine x_m J rfl fun U J=>wn (k _ _ ?_)
 refine bA J G rfl (fun m G=>?_) fun m G=>?_
 ·refine nz 1 J rfl fun U J=>?_
  replace X:=X.drop 0 |>.drop 0
  cases G
  refine wp_ret (hQ _ _ ?_)
  exact lv Tryz.results57 J rfl ⟨rfl,X⟩
 refine wp_skip (e _ _ ?_)
 refine d _ _ (nz 1 J rfl fun U J=>?_)
 replace X:=X.drop 0 |>.drop 0
 cases G
 refine wp_ret (hQ _ _ ?_)
 exact lv Tryz.results57 J rfl ⟨rfl,X⟩
theorem rJ {a0 A0 n0 c0 y} (G:fF a0=some y) (X:SH r (L) w) (ha0:RdL L k47 A0 n0 c0 a0) :
  Ret Tryz.prog 55 #[.slice A0 n0 c0] w fun v w'=>∃ (B0:Option Addr) (m0:Nat) (d0:Nat),v=.slice B0 m0 d0∧SH r (own k47 47 B0 m0 d0 y::L) w':=by
 refine enter Tryz.func55 rfl Tryz.ntmps55 [(0,_)] rfl (by simp) ?_
 intro U J Qf hQ hQn
 unfold fF at G
 refine nz 1 J rfl fun U J=>wp_seq_k fun l c=>ws fun m a=>xk 1 J rfl fun U J=>?_
 rcases A0 with _ | f
 ·replace G:=aVo (RdL.none_nil ha0 (X.sfx 0)) G
  refine x_v (v:=.bool true) J (aCa (p:=none) eG rfl (J.ev rfl) (J.ev rfl)) rfl fun U J=>wn (a _ _ ?_)
  refine c_t (b:=true) rfl J ?_ rfl
  refine nz 1 J rfl fun U J=>?_
  replace X:=SH.nil_own (d:=k47) (e:=47) X
  cases G
  refine wp_ret (hQ _ _ ?_)
  exact lv Tryz.results55 J rfl ⟨none,0,0,rfl,X⟩
 replace G:=aU6 G
 refine x_v (v:=.bool false) J (aCa (p:=some f) eG rfl (J.ev rfl) (J.ev rfl)) rfl fun U J=>wn (a _ _ ?_)
 refine c_f (b:=false) rfl J ?_ rfl
 refine wp_skip (c _ _ ?_)
 refine ws fun n g=>iM (d:=k47) (e:=47) (ps:=#[]) (cells:=[]) (xs:=[]) (fun w=>by kernel_rfl) rfl rfl J X (fun o U w X J=>?_) rfl
 refine x_m J rfl fun U J=>?_
 obtain⟨h,G⟩:=aB G
 have hr:=X.rdl 1 ha0 rfl
 refine gH 0 aB5 eG J X hr.1 hr.2.1 h rfl (fun i j k U w X J=>?_) rfl
 rw [List.nil_append] at X
 refine x_m J rfl fun U J=>wn (g _ _ ?_)
 cases G
 refine wp_ret (hQ _ _ ?_)
 exact lv Tryz.results55 J rfl ⟨i,j,k,rfl,X⟩
theorem gG {a0 a1 a2 a3 A0 n0 c0 y} (G:bX a0 a1 a2 a3=some y) (X:SH r (own k47 47 A0 n0 c0 a0::L) w) :
  Ret Tryz.prog 136 #[.slice A0 n0 c0,.int .i64 a1,.int .i64 a2,.int .i64 a3,.func (.func 57) #[] #[]] w fun v w'=>v=.tuple #[]∧SH r (own k47 47 A0 n0 c0 y::L) w':=by
 refine enter Tryz.func136 rfl Tryz.ntmps136 [(0,_),(1,_),(2,_),(3,_),(4,_)] rfl (by simp) ?_
 intro U J Qf hQ hQn
 unfold bX at G
 refine nz 1 J rfl fun U J=>aA fun i n=>?_
 have hb1:∀g,fU g=some y→∀U w,FR 38 [] U [(0,.slice A0 n0 c0),(4,.func (.func 57) #[] #[])]→SH r (own k47 47 A0 n0 c0 g::L) w→i U w:=by
  intro g G U w J X
  unfold fU at G
  cases G
  refine n _ _ (hQn _ _ ?_)
  exact aCy Tryz.results136 J ⟨rfl,X⟩
 obtain⟨o,p,G⟩:=bnd G
 have q:∀e,(e)=o→∀U w,FR 38 [] U [(0,.slice A0 n0 c0),(4,.func (.func 57) #[] #[])]→SH r (own k47 47 A0 n0 c0 e::L) w→i U w:=by
  intro e ht U w J X
  subst ht
  replace G:fJ e=some y:=G
  unfold fJ at G
  exact hb1 e G U w (J.sub _ rfl) X
 refine aD p (fun s U w=>FR 38 [] U [(0,.slice A0 n0 c0),(1,.int .i64 a1),(2,.int .i64 a2),(3,.int .i64 a3),(4,.func (.func 57) #[] #[]),(10,.int .i64 s.2)]∧SH r (own k47 47 A0 n0 c0 s.1::L) w) ⟨J.sub _ rfl,X⟩ ?_
 intro I t x G z A U w hLab
 obtain⟨k,d⟩:=t
 replace G:aZ a1 a2 a3 k d=some x:=G
 unfold aZ at G
 try dsimp only at hLab
 obtain⟨J,X⟩:=hLab
 refine wp_seq_k fun M B=>nz 3 J rfl fun U J=>bA J G rfl (fun C G=>?_) fun C G=>?_
 ·refine wp_skip (B _ _ ?_)
  refine wp_seq_k fun N D=>aA fun O E=>cP [0,0,0,6,0,0,0,96,0,0,0,1536,3840,7936,0,0,0,98304,245760,507904,1048335,2096911,4194303,8388607] [21,23] rfl J X (by kernel_rfl) (by kernel_rfl) (by kernel_rfl) (by kernel_rfl) fun w X=>?_
  obtain⟨a,l,G⟩:=bnd G
  obtain⟨cs,hV,F⟩:=el (X.rd 0 rfl) l
  obtain rfl:=hV
  obtain⟨b,f,G⟩:=bnd G
  obtain⟨cs,hV,H⟩:=el (X.rd 0 rfl) f
  obtain rfl:=hV
  refine⟨[(0,.slice A0 n0 c0),(1,.int .i64 a1),(2,.int .i64 d),(3,.int .i64 (IntKind.i64.wrap (a1+d))),(4,.slice A0 n0 c0),(5,.int .i64 a2),(6,.int .i64 d),(7,.int .i64 (IntKind.i64.wrap (a2+d))),(8,.slice A0 n0 c0),(9,.int .i64 a2),(10,.int .i64 d),(11,.int .i64 (IntKind.i64.wrap (a2+d))),(12,.pointer (some (ea A0 ((IntKind.i64.wrap (a2+d)).toNat * 5)))),(13,.agg #[.int .u64 a.f0,.int .i64 a.f1,.int .i64 a.f2,str a.f3,.float .f64 a.f4]),(14,.slice A0 n0 c0),(15,.int .i64 a1),(16,.int .i64 d),(17,.int .i64 (IntKind.i64.wrap (a1+d))),(18,.pointer (some (ea A0 ((IntKind.i64.wrap (a1+d)).toNat * 5)))),(19,.agg #[.int .u64 b.f0,.int .i64 b.f1,.int .i64 b.f2,str b.f3,.float .f64 b.f4]),(20,.pointer (some (ea A0 ((IntKind.i64.wrap (a1+d)).toNat * 5))))],?_⟩
  refine dF [0,1,2,3,4,5,6,7,8,9,10,11,12,13,14,15,16,17,18,19,20] [21] (by kernel_rfl) ⟨pm rfl,pm rfl,pm rfl,pt [(17,_),(18,_)] rfl (fun U J=>iP rfl (J.ev rfl) (J.ev rfl)),pm rfl,pm rfl,pm rfl,pt [(21,_),(22,_)] rfl (fun U J=>iP rfl (J.ev rfl) (J.ev rfl)),pm rfl,pm rfl,pm rfl,pt [(25,_),(26,_)] rfl (fun U J=>iP rfl (J.ev rfl) (J.ev rfl)),pt [(24,_),(27,_)] rfl (fun U J=>fH eG cH (X.rd 0 rfl) l J rfl rfl rfl),pt [(28,_)] rfl (fun U J=>nL (cs:=[.int .u64 a.f0,.int .i64 a.f1,.int .i64 a.f2,str a.f3,.float .f64 a.f4]) lL cH (fun j u h=>by rw [eU]; exact F _ _ h) J rfl rfl rfl),pm rfl,pm rfl,pm rfl,pt [(31,_),(32,_)] rfl (fun U J=>iP rfl (J.ev rfl) (J.ev rfl)),pt [(30,_),(33,_)] rfl (fun U J=>fH eG cH (X.rd 0 rfl) f J rfl rfl rfl),pt [(34,_)] rfl (fun U J=>nL (cs:=[.int .u64 b.f0,.int .i64 b.f1,.int .i64 b.f2,str b.f3,.float .f64 b.f4]) lL cH (fun j u h=>by rw [eU]; exact H _ _ h) J rfl rfl rfl),pt [(16,_),(19,_)] rfl (fun U J=>fH eG cH (X.rd 0 rfl) f J rfl rfl rfl),trivial⟩ ⟨et [(29,_),(36,_)] rfl (fun U J K hK=>?_),trivial⟩
  refine xD (z':=a) (off:=0) (vs:=[.int .u64 a.f0,.int .i64 a.f1,.int .i64 a.f2,str a.f3,.float .f64 a.f4]) 0 cH J X rfl (dQ f).2.2 (fun c h=>by cases h; rfl) (fun  w X=>?_) rfl rfl rfl rfl rfl rfl
  obtain⟨P,m,G⟩:=bnd G
  refine hK _ [(22,.pointer (some (ea A0 ((IntKind.i64.wrap (a2+d)).toNat * 5))))] _ rfl (dF [4,5,6,7,22] [23] (by kernel_rfl) ⟨pm rfl,pm rfl,pm rfl,pt [(21,_),(22,_)] rfl (fun U J=>iP rfl (J.ev rfl) (J.ev rfl)),pt [(20,_),(23,_)] rfl (fun U J=>fH eG cH (X.rd 0 rfl) m J rfl rfl rfl),trivial⟩ ⟨et [(35,_),(37,_)] rfl (fun U J K hK=>?_),trivial⟩)
  refine xD (z':=b) (off:=0) (vs:=[.int .u64 b.f0,.int .i64 b.f1,.int .i64 b.f2,str b.f3,.float .f64 b.f4]) 0 cH J X rfl (dQ m).2.2 (fun c h=>by cases h; rfl) (fun  w X=>?_) rfl rfl rfl rfl rfl rfl
  refine hK _ [] _ rfl (gK [] (by kernel_rfl) trivial ⟨by kernel_rfl,by kernel_rfl⟩ [(0,_),(1,_),(2,_),(3,_),(4,_),(10,_)] rfl (fun U J=>?_))
  refine E _ _ (D _ _ ?_)
  refine aC (nk 3 J rfl fun U J=>?_)
  cases G
  exact⟨_,z _ rfl,J.sub _ rfl,X⟩
 cases G
 exact wp_exit (q k (A _ rfl) U w (J.sub _ rfl) X)
theorem tA {a0 a1 a2 a3 A0 n0 c0 y} (G:eF a0 a1 a2 a3=some y) (X:SH r (own k47 47 A0 n0 c0 a0::L) w) :
  Ret Tryz.prog 118 #[.slice A0 n0 c0,.int .i64 a1,.int .i64 a2,.int .i64 a3,.func (.func 57) #[] #[]] w fun v w'=>v=.tuple #[]∧SH r (own k47 47 A0 n0 c0 y::L) w':=by
 refine enter Tryz.func118 rfl Tryz.ntmps118 [(0,_),(1,_),(2,_),(3,_),(4,_)] rfl (by simp) ?_
 intro U J Qf hQ hQn
 unfold eF at G
 refine nz 4 J rfl fun U J=>nz 4 J rfl fun U J=>wp_seq_k fun O m=>aA fun j n=>?_
 have hb1:∀e f,eW a2 e f=some y→∀U w,FR 58 [] U [(0,.slice A0 n0 c0),(2,.int .i64 a2),(4,.func (.func 57) #[] #[]),(10,.int .i64 f)]→SH r (own k47 47 A0 n0 c0 e::L) w→j U w:=by
  intro e f G U w J X
  unfold eW at G
  refine n _ _ (m _ _ ?_)
  refine aC (xk 7 J rfl fun U J=>?_)
  obtain⟨P,o,G⟩:=bnd G
  refine x_c aRo J rfl (gG o X :) fun v U w hR J=>?_
  obtain⟨rfl,X⟩:=hR
  refine wpList_nil ?_
  cases G
  refine hQn _ _ (aCy Tryz.results118 J ?_)
  exact⟨rfl,X⟩
 obtain⟨p,q,G⟩:=bnd G
 have t:∀a b,(a,b)=p→∀U w,FR 58 [] U [(0,.slice A0 n0 c0),(2,.int .i64 a2),(4,.func (.func 57) #[] #[]),(10,.int .i64 b)]→SH r (own k47 47 A0 n0 c0 a::L) w→j U w:=by
  intro a b ht U w J X
  subst ht
  replace G:eM a2 a b=some y:=G
  unfold eM at G
  exact hb1 a b G U w (J.sub _ rfl) X
 refine aD q (fun s U w=>FR 58 [] U [(0,.slice A0 n0 c0),(2,.int .i64 a2),(4,.func (.func 57) #[] #[]),(10,.int .i64 s.2.1),(11,.int .i64 s.2.2)]∧SH r (own k47 47 A0 n0 c0 s.1::L) w) ⟨J.sub _ rfl,X⟩ ?_
 intro Q u k G x z U w hLab
 obtain⟨l,c,d⟩:=u
 replace G:bY a2 l c d=some k:=G
 unfold bY at G
 try dsimp only at hLab
 obtain⟨J,X⟩:=hLab
 refine wp_seq_k fun R A=>nz 3 J rfl fun U J=>bA J G rfl (fun B G=>?_) fun B G=>?_
 ·refine wp_skip (A _ _ ?_)
  refine aA fun C D=>?_
  have hb2:∀g h i,dL g h i=some k→∀U w,FR 58 [] U [(0,.slice A0 n0 c0),(2,.int .i64 a2),(4,.func (.func 57) #[] #[]),(10,.int .i64 h),(11,.int .i64 i)]→SH r (own k47 47 A0 n0 c0 g::L) w→C U w:=by
   intro g h i G U w J X
   unfold dL at G
   cases G
   exact D _ _ ⟨_,x _ rfl,J.sub _ rfl,X⟩
  refine nz 3 J rfl fun U J=>bA J G rfl (fun E G=>?_) fun E G=>?_
  ·refine ws fun S F=>xk 7 J rfl fun U J=>?_
   obtain⟨H,I,G⟩:=bnd G
   refine x_c aRo J rfl (gG I X :) fun v U w hR J=>?_
   obtain⟨rfl,X⟩:=hR
   refine wn (F _ _ ?_)
   refine aC (nk 4 J rfl fun U J=>?_)
   exact hb2 H (IntKind.i64.wrap (c - d)) d G U w (J.sub _ rfl) X
  refine ws fun T K=>xk 11 J rfl fun U J=>?_
  obtain⟨M,N,G⟩:=bnd G
  refine x_c aRo J rfl (gG N X :) fun v U w hR J=>?_
  obtain⟨rfl,X⟩:=hR
  refine wn (K _ _ ?_)
  refine aC (nk 4 J rfl fun U J=>?_)
  exact hb2 M c (IntKind.i64.wrap (d - c)) G U w (J.sub _ rfl) X
 cases G
 exact wp_exit (t l c (z _ rfl) U w (J.sub _ rfl) X)
end
theorem rB (rec_:(List S47)→Int→Int→Int→Option ((List S47))) (hrec:∀ {r:World} {L:List HP} {w:World} (a0:(List S47)) (a1:Int) (a2:Int) (a3:Int) (A0:Option Addr) (n0:Nat) (c0:Nat) {y:((List S47))} (G:rec_ a0 a1 a2 a3=some y) (X:SH r (own k47 47 A0 n0 c0 a0::L) w),Ret Tryz.prog 94 #[.slice A0 n0 c0,.int .i64 a1,.int .i64 a2,.int .i64 a3,.func (.func 57) #[] #[]] w fun v w'=>v=.tuple #[]∧SH r (own k47 47 A0 n0 c0 y::L) w') {r:World} {L:List HP} {w:World} (a0:(List S47)) (a1:Int) (a2:Int) (a3:Int) (A0:Option Addr) (n0:Nat) (c0:Nat) {y:((List S47))} (G:aT rec_ a0 a1 a2 a3=some y) (X:SH r (own k47 47 A0 n0 c0 a0::L) w) :
  Ret Tryz.prog 94 #[.slice A0 n0 c0,.int .i64 a1,.int .i64 a2,.int .i64 a3,.func (.func 57) #[] #[]] w fun v w'=>v=.tuple #[]∧SH r (own k47 47 A0 n0 c0 y::L) w':=by
 refine enter Tryz.func94 rfl Tryz.ntmps94 [(0,.slice A0 n0 c0),(1,.int .i64 a1),(2,.int .i64 a2),(3,.int .i64 a3),(4,.func (.func 57) #[] #[])] rfl (by simp) ?_
 intro U J Qf hQ hQn
 unfold aT at G
 refine wp_seq_k fun r5 f9=>?_
 refine ws fun r6 g0=>?_
 refine x_m J rfl fun U J=>?_
 refine x_m J rfl fun U J=>?_
 refine x_v J (oZ rfl (J.ev rfl) (J.ev rfl)) rfl fun U J=>?_
 refine x_v J (aH1 rfl (J.ev rfl) (J.ev rfl)) rfl fun U J=>?_
 refine wn (g0 _ _ ?_)
 refine zQ J rfl (fun a4=>?_) fun a4=>?_
 ·replace G:=ift a4 G
  refine ws fun r7 g1=>?_
  refine x_m J rfl fun U J=>?_
  refine x_m J rfl fun U J=>?_
  refine wn (g1 _ _ ?_)
  refine ws fun r8 g2=>?_
  refine x_m J rfl fun U J=>?_
  refine x_m J rfl fun U J=>?_
  refine wn (g2 _ _ ?_)
  refine wp_seq_k fun r9 g3=>?_
  refine aA fun d4 g4=>?_
  have hb1:∀ (I:Int),eL a0 a1 I=some y→∀ (U:Act) (w:World),FR 220 [] U [(0,.slice A0 n0 c0),(1,.int .i64 a1),(4,.func (.func 57) #[] #[]),(10,.int .i64 I)]→SH r (own k47 47 A0 n0 c0 a0::L) w→d4 U w:=by
   intro I G U w J X
   unfold eL at G
   refine g4 _ _ ?_
   refine g3 _ _ ?_
   refine wp_seq_k fun s0 g5=>?_
   refine ws fun s2 g6=>?_
   refine x_m J rfl fun U J=>?_
   refine x_m J rfl fun U J=>?_
   refine wn (g6 _ _ ?_)
   refine aA fun d5 g7=>?_
   have hb2:∀ (a5:(List S47)),eI a5=some y→∀ (U:Act) (w:World),FR 220 [] U [(0,.slice A0 n0 c0),(4,.func (.func 57) #[] #[])]→SH r (own k47 47 A0 n0 c0 a5::L) w→d5 U w:=by
    intro a5 G U w J X
    unfold eI at G
    refine g7 _ _ ?_
    refine g5 _ _ ?_
    refine wp_ret ?_
    cases G
    refine hQ _ _ ?_
    refine lv0 Tryz.results94 J ?_
    exact⟨rfl,X⟩
   obtain⟨g8,g9,G⟩:=bnd G
   have h0:∀ (O:(List S47)),(O)=g8→∀ (U:Act) (w:World),FR 220 [] U [(0,.slice A0 n0 c0),(4,.func (.func 57) #[] #[])]→SH r (own k47 47 A0 n0 c0 O::L) w→d5 U w:=by
    intro O ht U w J X
    subst ht
    replace G:dX O=some y:=G
    unfold dX at G
    exact hb2 O G U w (J.sub _ rfl) X
   refine aD g9 (fun s U w=>FR 220 [] U [(0,.slice A0 n0 c0),(4,.func (.func 57) #[] #[]),(10,.int .i64 I),(13,.int .i64 s.2)]∧SH r (own k47 47 A0 n0 c0 s.1::L) w) ⟨J.sub _ rfl,X⟩ ?_
   intro s3 h1 h2 G h3 h4 U w hLab
   obtain⟨d6,d⟩:=h1
   replace G:aS I d6 d=some h2:=G
   unfold aS at G
   try dsimp only at hLab
   obtain⟨J,X⟩:=hLab
   refine wp_seq_k fun s4 h5=>?_
   refine ws fun s5 h6=>?_
   refine x_m J rfl fun U J=>?_
   refine x_m J rfl fun U J=>?_
   refine x_v J (oZ rfl (J.ev rfl) (J.ev rfl)) rfl fun U J=>?_
   refine x_v J (qX rfl (J.ev rfl) (J.ev rfl)) rfl fun U J=>?_
   refine wn (h6 _ _ ?_)
   refine zQ J rfl (fun a6=>?_) fun a6=>?_
   ·replace G:=ift a6 G
    refine wp_skip ?_
    refine h5 _ _ ?_
    refine wp_seq_k fun s6 h7=>?_
    refine aA fun s7 h8=>?_
    refine cP [0,0,0,0,8,0,0,64,224,480,0,0,3072,7168,16355,32739,65535,131071] [15,17] rfl J X (by kernel_rfl) (by kernel_rfl) (by kernel_rfl) (by kernel_rfl) fun w X=>?_
    obtain⟨f,d7,G⟩:=bnd G
    obtain⟨cs,hV,h9⟩:=el (X.rd 0 rfl) d7
    obtain rfl:=hV
    obtain⟨g,Y,G⟩:=bnd G
    obtain⟨cs,hV,i0⟩:=el (X.rd 0 rfl) Y
    obtain rfl:=hV
    refine⟨[(0,.slice A0 n0 c0),(1,.int .i64 d),(2,.slice A0 n0 c0),(3,.int .i64 d),(4,.int .i64 (IntKind.i64.wrap (d+1))),(5,.slice A0 n0 c0),(6,.int .i64 d),(7,.int .i64 (IntKind.i64.wrap (d+1))),(8,.pointer (some (ea A0 ((IntKind.i64.wrap (d+1)).toNat * 5)))),(9,.agg #[.int .u64 f.f0,.int .i64 f.f1,.int .i64 f.f2,str f.f3,.float .f64 f.f4]),(10,.slice A0 n0 c0),(11,.int .i64 d),(12,.pointer (some (ea A0 (d.toNat * 5)))),(13,.agg #[.int .u64 g.f0,.int .i64 g.f1,.int .i64 g.f2,str g.f3,.float .f64 g.f4]),(14,.pointer (some (ea A0 (d.toNat * 5))))],?_⟩
    refine dF [0,1,2,3,4,5,6,7,8,9,10,11,12,13,14] [15] (by kernel_rfl) ⟨pm rfl,pm rfl,pm rfl,pm rfl,pt [(64,.int .i64 d)] rfl (fun U J=>iP rfl (J.ev rfl) (J.ev rfl)),pm rfl,pm rfl,pt [(67,.int .i64 d)] rfl (fun U J=>iP rfl (J.ev rfl) (J.ev rfl)),pt [(66,.slice A0 n0 c0),(68,.int .i64 (IntKind.i64.wrap (d+1)))] rfl (fun U J=>fH eG cH (X.rd 0 rfl) d7 J rfl rfl rfl),pt [(69,.pointer (some (ea A0 ((IntKind.i64.wrap (d+1)).toNat * 5))))] rfl (fun U J=>nL (cs:=[.int .u64 f.f0,.int .i64 f.f1,.int .i64 f.f2,str f.f3,.float .f64 f.f4]) lL cH (fun j u h=>by rw [eU]; exact h9 _ _ h) J rfl rfl rfl),pm rfl,pm rfl,pt [(71,.slice A0 n0 c0),(72,.int .i64 d)] rfl (fun U J=>fH eG cH (X.rd 0 rfl) Y J rfl rfl rfl),pt [(73,.pointer (some (ea A0 (d.toNat * 5))))] rfl (fun U J=>nL (cs:=[.int .u64 g.f0,.int .i64 g.f1,.int .i64 g.f2,str g.f3,.float .f64 g.f4]) lL cH (fun j u h=>by rw [eU]; exact i0 _ _ h) J rfl rfl rfl),pt [(61,.slice A0 n0 c0),(62,.int .i64 d)] rfl (fun U J=>fH eG cH (X.rd 0 rfl) Y J rfl rfl rfl),trivial⟩ ⟨et [(70,.agg #[.int .u64 f.f0,.int .i64 f.f1,.int .i64 f.f2,str f.f3,.float .f64 f.f4]),(75,.pointer (some (ea A0 (d.toNat * 5))))] rfl (fun U J K hK=>?_),trivial⟩
    refine xD (z':=f) (off:=0) (vs:=[.int .u64 f.f0,.int .i64 f.f1,.int .i64 f.f2,str f.f3,.float .f64 f.f4]) 0 cH J X rfl (dQ Y).2.2 (fun c h=>by cases h; rfl) (fun  w X=>?_) rfl rfl rfl rfl rfl rfl
    obtain⟨s8,d8,G⟩:=bnd G
    refine hK _ [(16,.pointer (some (ea A0 ((IntKind.i64.wrap (d+1)).toNat * 5))))] _ rfl ?_
    refine dF [2,3,4,16] [17] (by kernel_rfl) ⟨pm rfl,pm rfl,pt [(64,.int .i64 d)] rfl (fun U J=>iP rfl (J.ev rfl) (J.ev rfl)),pt [(63,.slice A0 n0 c0),(65,.int .i64 (IntKind.i64.wrap (d+1)))] rfl (fun U J=>fH eG cH (X.rd 0 rfl) d8 J rfl rfl rfl),trivial⟩ ⟨et [(74,.agg #[.int .u64 g.f0,.int .i64 g.f1,.int .i64 g.f2,str g.f3,.float .f64 g.f4]),(76,.pointer (some (ea A0 ((IntKind.i64.wrap (d+1)).toNat * 5))))] rfl (fun U J K hK=>?_),trivial⟩
    refine xD (z':=g) (off:=0) (vs:=[.int .u64 g.f0,.int .i64 g.f1,.int .i64 g.f2,str g.f3,.float .f64 g.f4]) 0 cH J X rfl (dQ d8).2.2 (fun c h=>by cases h; rfl) (fun  w X=>?_) rfl rfl rfl rfl rfl rfl
    refine hK _ [] _ rfl ?_
    refine gK [] (by kernel_rfl) trivial ⟨by kernel_rfl,by kernel_rfl⟩ [(0,.slice A0 n0 c0),(4,.func (.func 57) #[] #[]),(10,.int .i64 I),(13,.int .i64 d)] rfl (fun U J=>?_)
    refine h8 _ _ ?_
    refine h7 _ _ ?_
    refine aC ?_
    refine x_m J rfl fun U J=>?_
    refine x_v J (iP rfl (J.ev rfl) (J.ev rfl)) rfl fun U J=>?_
    refine x_m J rfl fun U J=>?_
    refine wpList_nil ?_
    cases G
    exact⟨_,h3 _ rfl,J.sub _ rfl,X⟩
   replace G:=xK a6 G
   refine wp_exit ?_
   cases G
   exact h0 d6 (h4 _ rfl) U w (J.sub _ rfl) X
  obtain⟨i1,i2,G⟩:=bnd G
  have i3:∀ (P:Int),(P)=i1→∀ (U:Act) (w:World),FR 220 [] U [(0,.slice A0 n0 c0),(1,.int .i64 a1),(4,.func (.func 57) #[] #[]),(10,.int .i64 P)]→SH r (own k47 47 A0 n0 c0 a0::L) w→d4 U w:=by
   intro P ht U w J X
   subst ht
   replace G:dW a0 a1 P=some y:=G
   unfold dW at G
   exact hb1 P G U w (J.sub _ rfl) X
  refine aD i2 (fun s U w=>FR 220 [] U [(0,.slice A0 n0 c0),(1,.int .i64 a1),(4,.func (.func 57) #[] #[]),(10,.int .i64 s.1),(11,.int .i64 s.2)]∧SH r (own k47 47 A0 n0 c0 a0::L) w) ⟨J.sub _ rfl,X⟩ ?_
  intro s9 i4 d9 G i5 i6 U w hLab
  obtain⟨z,B⟩:=i4
  replace G:bE a0 a1 z B=some d9:=G
  unfold bE at G
  try dsimp only at hLab
  obtain⟨J,X⟩:=hLab
  refine wp_seq_k fun t0 i7=>?_
  refine ws fun t1 i8=>?_
  refine x_m J rfl fun U J=>?_
  refine x_m J rfl fun U J=>?_
  refine x_v J (qX rfl (J.ev rfl) (J.ev rfl)) rfl fun U J=>?_
  refine wn (i8 _ _ ?_)
  refine zQ J rfl (fun a7=>?_) fun a7=>?_
  ·replace G:=ift a7 G
   refine wp_skip ?_
   refine i7 _ _ ?_
   refine aA fun i9 j0=>?_
   have hb3:∀ (a8:Int) (a9:Int),cX a8 a9=some d9→∀ (U:Act) (w:World),FR 220 [] U [(0,.slice A0 n0 c0),(1,.int .i64 a1),(4,.func (.func 57) #[] #[]),(10,.int .i64 a8),(11,.int .i64 a9)]→SH r (own k47 47 A0 n0 c0 a0::L) w→i9 U w:=by
    intro a8 a9 G U w J X
    unfold cX at G
    refine j0 _ _ ?_
    cases G
    exact⟨_,i5 _ rfl,J.sub _ rfl,X⟩
   refine ws fun t2 j1=>?_
   refine x_m J rfl fun U J=>?_
   refine x_m J rfl fun U J=>?_
   refine x_v J (iP rfl (J.ev rfl) (J.ev rfl)) rfl fun U J=>?_
   refine x_v J (aY uu3 aEf rfl (J.ev rfl)) rfl fun U J=>?_
   refine x_v J (qV rfl (J.ev rfl) (J.ev rfl) (by decide)) rfl fun U J=>?_
   refine x_v J (aY aEf uu3 rfl (J.ev rfl)) rfl fun U J=>?_
   refine x_m J rfl fun U J=>?_
   refine wn (j1 _ _ ?_)
   refine wp_seq_k fun t3 j2=>?_
   refine cP [0,0,0,6,14,0,0,96,224,511,1023] [9] rfl J X (by kernel_rfl) (by kernel_rfl) (by kernel_rfl) (by kernel_rfl) fun w X=>?_
   obtain⟨l,e0,G⟩:=bnd G
   obtain⟨cs,hV,j3⟩:=el (X.rd 0 rfl) e0
   obtain rfl:=hV
   obtain⟨m,e1,G⟩:=bnd G
   obtain⟨cs,hV,j4⟩:=el (X.rd 0 rfl) e1
   obtain rfl:=hV
   refine⟨[(0,.func (.func 57) #[] #[]),(1,.slice A0 n0 c0),(2,.int .i64 (IntKind.i64.wrap (bS .u64 (IntKind.u64.wrap (IntKind.i64.wrap (z+B))) 1))),(3,.pointer (some (ea A0 ((IntKind.i64.wrap (bS .u64 (IntKind.u64.wrap (IntKind.i64.wrap (z+B))) 1)).toNat * 5)))),(4,.agg #[.int .u64 l.f0,.int .i64 l.f1,.int .i64 l.f2,str l.f3,.float .f64 l.f4]),(5,.slice A0 n0 c0),(6,.int .i64 a1),(7,.pointer (some (ea A0 (a1.toNat * 5)))),(8,.agg #[.int .u64 m.f0,.int .i64 m.f1,.int .i64 m.f2,str m.f3,.float .f64 m.f4])],?_⟩
   refine dF [0,1,2,3,4,5,6,7,8] [9] (by kernel_rfl) ⟨pm rfl,pm rfl,pm rfl,pt [(41,.slice A0 n0 c0),(42,.int .i64 (IntKind.i64.wrap (bS .u64 (IntKind.u64.wrap (IntKind.i64.wrap (z+B))) 1)))] rfl (fun U J=>fH eG cH (X.rd 0 rfl) e0 J rfl rfl rfl),pt [(43,.pointer (some (ea A0 ((IntKind.i64.wrap (bS .u64 (IntKind.u64.wrap (IntKind.i64.wrap (z+B))) 1)).toNat * 5))))] rfl (fun U J=>nL (cs:=[.int .u64 l.f0,.int .i64 l.f1,.int .i64 l.f2,str l.f3,.float .f64 l.f4]) lL cH (fun j u h=>by rw [eU]; exact j3 _ _ h) J rfl rfl rfl),pm rfl,pm rfl,pt [(45,.slice A0 n0 c0),(46,.int .i64 a1)] rfl (fun U J=>fH eG cH (X.rd 0 rfl) e1 J rfl rfl rfl),pt [(47,.pointer (some (ea A0 (a1.toNat * 5))))] rfl (fun U J=>nL (cs:=[.int .u64 m.f0,.int .i64 m.f1,.int .i64 m.f2,str m.f3,.float .f64 m.f4]) lL cH (fun j u h=>by rw [eU]; exact j4 _ _ h) J rfl rfl rfl),trivial⟩ ⟨et [(40,.func (.func 57) #[] #[]),(44,.agg #[.int .u64 l.f0,.int .i64 l.f1,.int .i64 l.f2,str l.f3,.float .f64 l.f4]),(48,.agg #[.int .u64 m.f0,.int .i64 m.f1,.int .i64 m.f2,str m.f3,.float .f64 m.f4])] rfl (fun U J K hK=>?_),trivial⟩
   obtain⟨b1,j5,G⟩:=bnd G
   refine aB6 (vs:=#[.agg #[.int .u64 l.f0,.int .i64 l.f1,.int .i64 l.f2,str l.f3,.float .f64 l.f4],.agg #[.int .u64 m.f0,.int .i64 m.f1,.int .i64 m.f2,str m.f3,.float .f64 m.f4]]) aUi J (sK j5 X :) (fun v w hR=>?_) rfl
   obtain⟨rfl,X⟩:=hR
   refine hK _ [(10,.bool (decide (b1<0)))] _ rfl ?_
   refine gK [10] (by kernel_rfl) ⟨pt [(49,.int .i64 b1)] rfl (fun U J=>qX rfl (J.ev rfl) (J.ev rfl)),trivial⟩ ⟨by kernel_rfl,by kernel_rfl⟩ [(0,.slice A0 n0 c0),(1,.int .i64 a1),(4,.func (.func 57) #[] #[]),(10,.int .i64 z),(11,.int .i64 B),(12,.int .i64 (IntKind.i64.wrap (bS .u64 (IntKind.u64.wrap (IntKind.i64.wrap (z+B))) 1))),(50,.bool (decide (b1<0)))] rfl (fun U J=>?_)
   refine j2 _ _ ?_
   refine zQ J rfl (fun b2=>?_) fun b2=>?_
   ·replace G:=ift b2 G
    refine aC ?_
    refine x_m J rfl fun U J=>?_
    refine x_v J (iP rfl (J.ev rfl) (J.ev rfl)) rfl fun U J=>?_
    refine x_m J rfl fun U J=>?_
    refine wpList_nil ?_
    exact hb3 (IntKind.i64.wrap ((IntKind.i64.wrap (bS .u64 (IntKind.u64.wrap (IntKind.i64.wrap (z+B))) 1))+1)) B G U w (J.sub _ rfl) X
   replace G:=xK b2 G
   refine aC ?_
   refine x_m J rfl fun U J=>?_
   refine x_m J rfl fun U J=>?_
   refine wpList_nil ?_
   exact hb3 z (IntKind.i64.wrap (bS .u64 (IntKind.u64.wrap (IntKind.i64.wrap (z+B))) 1)) G U w (J.sub _ rfl) X
  replace G:=xK a7 G
  refine wp_exit ?_
  cases G
  exact i3 z (i6 _ rfl) U w (J.sub _ rfl) X
 replace G:=xK a4 G
 refine wp_skip ?_
 refine f9 _ _ ?_
 refine wp_seq_k fun t4 j6=>?_
 refine ws fun t5 j7=>?_
 refine x_m J rfl fun U J=>?_
 refine x_m J rfl fun U J=>?_
 refine x_v J (oZ rfl (J.ev rfl) (J.ev rfl)) rfl fun U J=>?_
 refine x_v J (aH1 rfl (J.ev rfl) (J.ev rfl)) rfl fun U J=>?_
 refine wn (j7 _ _ ?_)
 refine zQ J rfl (fun b3=>?_) fun b3=>?_
 ·replace G:=ift b3 G
  refine ws fun t6 j8=>?_
  refine x_m J rfl fun U J=>?_
  refine x_m J rfl fun U J=>?_
  refine wn (j8 _ _ ?_)
  refine ws fun t7 j9=>?_
  refine x_m J rfl fun U J=>?_
  refine x_m J rfl fun U J=>?_
  refine wn (j9 _ _ ?_)
  refine wp_seq_k fun t8 k0=>?_
  refine aA fun e2 k1=>?_
  have hb4:∀ (M:Int),eN a0 a2 M=some y→∀ (U:Act) (w:World),FR 220 [] U [(0,.slice A0 n0 c0),(2,.int .i64 a2),(4,.func (.func 57) #[] #[]),(14,.int .i64 M)]→SH r (own k47 47 A0 n0 c0 a0::L) w→e2 U w:=by
   intro M G U w J X
   unfold eN at G
   refine k1 _ _ ?_
   refine k0 _ _ ?_
   refine wp_seq_k fun t9 k2=>?_
   refine ws fun u0 k3=>?_
   refine x_m J rfl fun U J=>?_
   refine x_m J rfl fun U J=>?_
   refine wn (k3 _ _ ?_)
   refine aA fun e3 k4=>?_
   have hb5:∀ (b4:(List S47)),eK b4=some y→∀ (U:Act) (w:World),FR 220 [] U [(0,.slice A0 n0 c0),(4,.func (.func 57) #[] #[])]→SH r (own k47 47 A0 n0 c0 b4::L) w→e3 U w:=by
    intro b4 G U w J X
    unfold eK at G
    refine k4 _ _ ?_
    refine k2 _ _ ?_
    refine wp_ret ?_
    cases G
    refine hQ _ _ ?_
    refine lv0 Tryz.results94 J ?_
    exact⟨rfl,X⟩
   obtain⟨k5,k6,G⟩:=bnd G
   have k7:∀ (Q:(List S47)),(Q)=k5→∀ (U:Act) (w:World),FR 220 [] U [(0,.slice A0 n0 c0),(4,.func (.func 57) #[] #[])]→SH r (own k47 47 A0 n0 c0 Q::L) w→e3 U w:=by
    intro Q ht U w J X
    subst ht
    replace G:dV Q=some y:=G
    unfold dV at G
    exact hb5 Q G U w (J.sub _ rfl) X
   refine aD k6 (fun s U w=>FR 220 [] U [(0,.slice A0 n0 c0),(4,.func (.func 57) #[] #[]),(14,.int .i64 M),(17,.int .i64 s.2)]∧SH r (own k47 47 A0 n0 c0 s.1::L) w) ⟨J.sub _ rfl,X⟩ ?_
   intro u1 k8 k9 G l0 l1 U w hLab
   obtain⟨e4,e⟩:=k8
   replace G:aR M e4 e=some k9:=G
   unfold aR at G
   try dsimp only at hLab
   obtain⟨J,X⟩:=hLab
   refine wp_seq_k fun u2 l2=>?_
   refine ws fun u3 l3=>?_
   refine x_m J rfl fun U J=>?_
   refine x_m J rfl fun U J=>?_
   refine x_v J (aBi rfl (J.ev rfl) (J.ev rfl)) rfl fun U J=>?_
   refine wn (l3 _ _ ?_)
   refine zQ J rfl (fun b5=>?_) fun b5=>?_
   ·replace G:=ift b5 G
    refine wp_skip ?_
    refine l2 _ _ ?_
    refine wp_seq_k fun u4 l4=>?_
    refine aA fun u5 l5=>?_
    refine cP [0,0,0,0,8,0,0,64,224,480,0,0,3072,7168,16355,32739,65535,131071] [15,17] rfl J X (by kernel_rfl) (by kernel_rfl) (by kernel_rfl) (by kernel_rfl) fun w X=>?_
    obtain⟨i,e5,G⟩:=bnd G
    obtain⟨cs,hV,l6⟩:=el (X.rd 0 rfl) e5
    obtain rfl:=hV
    obtain⟨k,Z,G⟩:=bnd G
    obtain⟨cs,hV,l7⟩:=el (X.rd 0 rfl) Z
    obtain rfl:=hV
    refine⟨[(0,.slice A0 n0 c0),(1,.int .i64 e),(2,.slice A0 n0 c0),(3,.int .i64 e),(4,.int .i64 (IntKind.i64.wrap (e - 1))),(5,.slice A0 n0 c0),(6,.int .i64 e),(7,.int .i64 (IntKind.i64.wrap (e - 1))),(8,.pointer (some (ea A0 ((IntKind.i64.wrap (e - 1)).toNat * 5)))),(9,.agg #[.int .u64 i.f0,.int .i64 i.f1,.int .i64 i.f2,str i.f3,.float .f64 i.f4]),(10,.slice A0 n0 c0),(11,.int .i64 e),(12,.pointer (some (ea A0 (e.toNat * 5)))),(13,.agg #[.int .u64 k.f0,.int .i64 k.f1,.int .i64 k.f2,str k.f3,.float .f64 k.f4]),(14,.pointer (some (ea A0 (e.toNat * 5))))],?_⟩
    refine dF [0,1,2,3,4,5,6,7,8,9,10,11,12,13,14] [15] (by kernel_rfl) ⟨pm rfl,pm rfl,pm rfl,pm rfl,pt [(116,.int .i64 e)] rfl (fun U J=>oZ rfl (J.ev rfl) (J.ev rfl)),pm rfl,pm rfl,pt [(119,.int .i64 e)] rfl (fun U J=>oZ rfl (J.ev rfl) (J.ev rfl)),pt [(118,.slice A0 n0 c0),(120,.int .i64 (IntKind.i64.wrap (e - 1)))] rfl (fun U J=>fH eG cH (X.rd 0 rfl) e5 J rfl rfl rfl),pt [(121,.pointer (some (ea A0 ((IntKind.i64.wrap (e - 1)).toNat * 5))))] rfl (fun U J=>nL (cs:=[.int .u64 i.f0,.int .i64 i.f1,.int .i64 i.f2,str i.f3,.float .f64 i.f4]) lL cH (fun j u h=>by rw [eU]; exact l6 _ _ h) J rfl rfl rfl),pm rfl,pm rfl,pt [(123,.slice A0 n0 c0),(124,.int .i64 e)] rfl (fun U J=>fH eG cH (X.rd 0 rfl) Z J rfl rfl rfl),pt [(125,.pointer (some (ea A0 (e.toNat * 5))))] rfl (fun U J=>nL (cs:=[.int .u64 k.f0,.int .i64 k.f1,.int .i64 k.f2,str k.f3,.float .f64 k.f4]) lL cH (fun j u h=>by rw [eU]; exact l7 _ _ h) J rfl rfl rfl),pt [(113,.slice A0 n0 c0),(114,.int .i64 e)] rfl (fun U J=>fH eG cH (X.rd 0 rfl) Z J rfl rfl rfl),trivial⟩ ⟨et [(122,.agg #[.int .u64 i.f0,.int .i64 i.f1,.int .i64 i.f2,str i.f3,.float .f64 i.f4]),(127,.pointer (some (ea A0 (e.toNat * 5))))] rfl (fun U J K hK=>?_),trivial⟩
    refine xD (z':=i) (off:=0) (vs:=[.int .u64 i.f0,.int .i64 i.f1,.int .i64 i.f2,str i.f3,.float .f64 i.f4]) 0 cH J X rfl (dQ Z).2.2 (fun c h=>by cases h; rfl) (fun  w X=>?_) rfl rfl rfl rfl rfl rfl
    obtain⟨u6,e6,G⟩:=bnd G
    refine hK _ [(16,.pointer (some (ea A0 ((IntKind.i64.wrap (e - 1)).toNat * 5))))] _ rfl ?_
    refine dF [2,3,4,16] [17] (by kernel_rfl) ⟨pm rfl,pm rfl,pt [(116,.int .i64 e)] rfl (fun U J=>oZ rfl (J.ev rfl) (J.ev rfl)),pt [(115,.slice A0 n0 c0),(117,.int .i64 (IntKind.i64.wrap (e - 1)))] rfl (fun U J=>fH eG cH (X.rd 0 rfl) e6 J rfl rfl rfl),trivial⟩ ⟨et [(126,.agg #[.int .u64 k.f0,.int .i64 k.f1,.int .i64 k.f2,str k.f3,.float .f64 k.f4]),(128,.pointer (some (ea A0 ((IntKind.i64.wrap (e - 1)).toNat * 5))))] rfl (fun U J K hK=>?_),trivial⟩
    refine xD (z':=k) (off:=0) (vs:=[.int .u64 k.f0,.int .i64 k.f1,.int .i64 k.f2,str k.f3,.float .f64 k.f4]) 0 cH J X rfl (dQ e6).2.2 (fun c h=>by cases h; rfl) (fun  w X=>?_) rfl rfl rfl rfl rfl rfl
    refine hK _ [] _ rfl ?_
    refine gK [] (by kernel_rfl) trivial ⟨by kernel_rfl,by kernel_rfl⟩ [(0,.slice A0 n0 c0),(4,.func (.func 57) #[] #[]),(14,.int .i64 M),(17,.int .i64 e)] rfl (fun U J=>?_)
    refine l5 _ _ ?_
    refine l4 _ _ ?_
    refine aC ?_
    refine x_m J rfl fun U J=>?_
    refine x_v J (oZ rfl (J.ev rfl) (J.ev rfl)) rfl fun U J=>?_
    refine x_m J rfl fun U J=>?_
    refine wpList_nil ?_
    cases G
    exact⟨_,l0 _ rfl,J.sub _ rfl,X⟩
   replace G:=xK b5 G
   refine wp_exit ?_
   cases G
   exact k7 e4 (l1 _ rfl) U w (J.sub _ rfl) X
  obtain⟨l8,l9,G⟩:=bnd G
  have m0:∀ (R:Int),(R)=l8→∀ (U:Act) (w:World),FR 220 [] U [(0,.slice A0 n0 c0),(2,.int .i64 a2),(4,.func (.func 57) #[] #[]),(14,.int .i64 R)]→SH r (own k47 47 A0 n0 c0 a0::L) w→e2 U w:=by
   intro R ht U w J X
   subst ht
   replace G:dY a0 a2 R=some y:=G
   unfold dY at G
   exact hb4 R G U w (J.sub _ rfl) X
  refine aD l9 (fun s U w=>FR 220 [] U [(0,.slice A0 n0 c0),(2,.int .i64 a2),(4,.func (.func 57) #[] #[]),(14,.int .i64 s.1),(15,.int .i64 s.2)]∧SH r (own k47 47 A0 n0 c0 a0::L) w) ⟨J.sub _ rfl,X⟩ ?_
  intro u7 m1 e7 G m2 m3 U w hLab
  obtain⟨A,C⟩:=m1
  replace G:bC a0 a2 A C=some e7:=G
  unfold bC at G
  try dsimp only at hLab
  obtain⟨J,X⟩:=hLab
  refine wp_seq_k fun u8 m4=>?_
  refine ws fun u9 m5=>?_
  refine x_m J rfl fun U J=>?_
  refine x_m J rfl fun U J=>?_
  refine x_v J (qX rfl (J.ev rfl) (J.ev rfl)) rfl fun U J=>?_
  refine wn (m5 _ _ ?_)
  refine zQ J rfl (fun b6=>?_) fun b6=>?_
  ·replace G:=ift b6 G
   refine wp_skip ?_
   refine m4 _ _ ?_
   refine aA fun m6 m7=>?_
   have hb6:∀ (b7:Int) (b8:Int),cV b7 b8=some e7→∀ (U:Act) (w:World),FR 220 [] U [(0,.slice A0 n0 c0),(2,.int .i64 a2),(4,.func (.func 57) #[] #[]),(14,.int .i64 b7),(15,.int .i64 b8)]→SH r (own k47 47 A0 n0 c0 a0::L) w→m6 U w:=by
    intro b7 b8 G U w J X
    unfold cV at G
    refine m7 _ _ ?_
    cases G
    exact⟨_,m2 _ rfl,J.sub _ rfl,X⟩
   refine ws fun v0 m8=>?_
   refine x_m J rfl fun U J=>?_
   refine x_m J rfl fun U J=>?_
   refine x_v J (iP rfl (J.ev rfl) (J.ev rfl)) rfl fun U J=>?_
   refine x_v J (aY uu3 aEf rfl (J.ev rfl)) rfl fun U J=>?_
   refine x_v J (qV rfl (J.ev rfl) (J.ev rfl) (by decide)) rfl fun U J=>?_
   refine x_v J (aY aEf uu3 rfl (J.ev rfl)) rfl fun U J=>?_
   refine x_m J rfl fun U J=>?_
   refine wn (m8 _ _ ?_)
   refine wp_seq_k fun v1 m9=>?_
   refine cP [0,0,0,6,14,0,0,96,224,511,1023,2047] [9] rfl J X (by kernel_rfl) (by kernel_rfl) (by kernel_rfl) (by kernel_rfl) fun w X=>?_
   obtain⟨n,e8,G⟩:=bnd G
   obtain⟨cs,hV,n1⟩:=el (X.rd 0 rfl) e8
   obtain rfl:=hV
   obtain⟨o,e9,G⟩:=bnd G
   obtain⟨cs,hV,n2⟩:=el (X.rd 0 rfl) e9
   obtain rfl:=hV
   refine⟨[(0,.func (.func 57) #[] #[]),(1,.slice A0 n0 c0),(2,.int .i64 a2),(3,.pointer (some (ea A0 (a2.toNat * 5)))),(4,.agg #[.int .u64 n.f0,.int .i64 n.f1,.int .i64 n.f2,str n.f3,.float .f64 n.f4]),(5,.slice A0 n0 c0),(6,.int .i64 (IntKind.i64.wrap (bS .u64 (IntKind.u64.wrap (IntKind.i64.wrap (A+C))) 1))),(7,.pointer (some (ea A0 ((IntKind.i64.wrap (bS .u64 (IntKind.u64.wrap (IntKind.i64.wrap (A+C))) 1)).toNat * 5)))),(8,.agg #[.int .u64 o.f0,.int .i64 o.f1,.int .i64 o.f2,str o.f3,.float .f64 o.f4])],?_⟩
   refine dF [0,1,2,3,4,5,6,7,8] [9] (by kernel_rfl) ⟨pm rfl,pm rfl,pm rfl,pt [(93,.slice A0 n0 c0),(94,.int .i64 a2)] rfl (fun U J=>fH eG cH (X.rd 0 rfl) e8 J rfl rfl rfl),pt [(95,.pointer (some (ea A0 (a2.toNat * 5))))] rfl (fun U J=>nL (cs:=[.int .u64 n.f0,.int .i64 n.f1,.int .i64 n.f2,str n.f3,.float .f64 n.f4]) lL cH (fun j u h=>by rw [eU]; exact n1 _ _ h) J rfl rfl rfl),pm rfl,pm rfl,pt [(97,.slice A0 n0 c0),(98,.int .i64 (IntKind.i64.wrap (bS .u64 (IntKind.u64.wrap (IntKind.i64.wrap (A+C))) 1)))] rfl (fun U J=>fH eG cH (X.rd 0 rfl) e9 J rfl rfl rfl),pt [(99,.pointer (some (ea A0 ((IntKind.i64.wrap (bS .u64 (IntKind.u64.wrap (IntKind.i64.wrap (A+C))) 1)).toNat * 5))))] rfl (fun U J=>nL (cs:=[.int .u64 o.f0,.int .i64 o.f1,.int .i64 o.f2,str o.f3,.float .f64 o.f4]) lL cH (fun j u h=>by rw [eU]; exact n2 _ _ h) J rfl rfl rfl),trivial⟩ ⟨et [(92,.func (.func 57) #[] #[]),(96,.agg #[.int .u64 n.f0,.int .i64 n.f1,.int .i64 n.f2,str n.f3,.float .f64 n.f4]),(100,.agg #[.int .u64 o.f0,.int .i64 o.f1,.int .i64 o.f2,str o.f3,.float .f64 o.f4])] rfl (fun U J K hK=>?_),trivial⟩
   obtain⟨S,n3,G⟩:=bnd G
   refine aB6 (vs:=#[.agg #[.int .u64 n.f0,.int .i64 n.f1,.int .i64 n.f2,str n.f3,.float .f64 n.f4],.agg #[.int .u64 o.f0,.int .i64 o.f1,.int .i64 o.f2,str o.f3,.float .f64 o.f4]]) aUi J (sK n3 X :) (fun v w hR=>?_) rfl
   obtain⟨rfl,X⟩:=hR
   refine hK _ [(10,.bool (decide (S<0))),(11,.bool (!(decide (S<0))))] _ rfl ?_
   refine gK [10,11] (by kernel_rfl) ⟨pt [(101,.int .i64 S)] rfl (fun U J=>qX rfl (J.ev rfl) (J.ev rfl)),pt [(102,.bool (decide (S<0)))] rfl (fun U J=>aCc rfl (J.ev rfl)),trivial⟩ ⟨by kernel_rfl,by kernel_rfl⟩ [(0,.slice A0 n0 c0),(2,.int .i64 a2),(4,.func (.func 57) #[] #[]),(14,.int .i64 A),(15,.int .i64 C),(16,.int .i64 (IntKind.i64.wrap (bS .u64 (IntKind.u64.wrap (IntKind.i64.wrap (A+C))) 1))),(103,.bool (!(decide (S<0))))] rfl (fun U J=>?_)
   refine m9 _ _ ?_
   refine zQ J rfl (fun b9=>?_) fun b9=>?_
   ·replace G:=ift b9 G
    refine aC ?_
    refine x_m J rfl fun U J=>?_
    refine x_v J (iP rfl (J.ev rfl) (J.ev rfl)) rfl fun U J=>?_
    refine x_m J rfl fun U J=>?_
    refine wpList_nil ?_
    exact hb6 (IntKind.i64.wrap ((IntKind.i64.wrap (bS .u64 (IntKind.u64.wrap (IntKind.i64.wrap (A+C))) 1))+1)) C G U w (J.sub _ rfl) X
   replace G:=xK b9 G
   refine aC ?_
   refine x_m J rfl fun U J=>?_
   refine x_m J rfl fun U J=>?_
   refine wpList_nil ?_
   exact hb6 A (IntKind.i64.wrap (bS .u64 (IntKind.u64.wrap (IntKind.i64.wrap (A+C))) 1)) G U w (J.sub _ rfl) X
  replace G:=xK b6 G
  refine wp_exit ?_
  cases G
  exact m0 A (m3 _ rfl) U w (J.sub _ rfl) X
 replace G:=xK b3 G
 refine wp_skip ?_
 refine j6 _ _ ?_
 refine ws fun v2 n4=>?_
 refine x_m J rfl fun U J=>?_
 refine x_m J rfl fun U J=>?_
 refine x_v J (iP rfl (J.ev rfl) (J.ev rfl)) rfl fun U J=>?_
 refine x_v J (aY uu3 aEf rfl (J.ev rfl)) rfl fun U J=>?_
 refine x_v J (qV rfl (J.ev rfl) (J.ev rfl) (by decide)) rfl fun U J=>?_
 refine x_v J (aY aEf uu3 rfl (J.ev rfl)) rfl fun U J=>?_
 refine x_m J rfl fun U J=>?_
 refine wn (n4 _ _ ?_)
 refine ws fun v3 n5=>?_
 refine x_m J rfl fun U J=>?_
 refine x_m J rfl fun U J=>?_
 refine x_v J (iP rfl (J.ev rfl) (J.ev rfl)) rfl fun U J=>?_
 refine x_m J rfl fun U J=>?_
 refine wn (n5 _ _ ?_)
 refine ws fun v4 n6=>?_
 refine x_m J rfl fun U J=>?_
 refine x_m J rfl fun U J=>?_
 refine wn (n6 _ _ ?_)
 refine wp_seq_k fun n7 n8=>?_
 have hj1:∀ (c1:Int) (c2:Int),cF rec_ a0 a1 a2 a3 c1 c2=some y→∀ (U:Act) (w:World),FR 220 [] U [(0,.slice A0 n0 c0),(1,.int .i64 a1),(2,.int .i64 a2),(3,.int .i64 a3),(4,.func (.func 57) #[] #[]),(18,.int .i64 (IntKind.i64.wrap (bS .u64 (IntKind.u64.wrap (IntKind.i64.wrap (a1+a3))) 1))),(19,.int .i64 (IntKind.i64.wrap ((IntKind.i64.wrap (bS .u64 (IntKind.u64.wrap (IntKind.i64.wrap (a1+a3))) 1))+a2))),(20,.int .i64 c1),(21,.int .i64 c2)]→SH r (own k47 47 A0 n0 c0 a0::L) w→n7 U w:=by
  intro c1 c2 G U w J X
  unfold cF at G
  refine n8 _ _ ?_
  refine ws fun v5 n9=>?_
  refine x_m J rfl fun U J=>?_
  refine x_v J (oZ rfl (J.ev rfl) (J.ev rfl)) rfl fun U J=>?_
  refine x_m J rfl fun U J=>?_
  refine wn (n9 _ _ ?_)
  refine wp_seq_k fun v6 o0=>?_
  refine aA fun f5 o1=>?_
  have hb7:∀ (a:Int),dA rec_ a0 a1 a2 a3 a=some y→∀ (U:Act) (w:World),FR 220 [] U [(0,.slice A0 n0 c0),(1,.int .i64 a1),(2,.int .i64 a2),(3,.int .i64 a3),(4,.func (.func 57) #[] #[]),(18,.int .i64 (IntKind.i64.wrap (bS .u64 (IntKind.u64.wrap (IntKind.i64.wrap (a1+a3))) 1))),(19,.int .i64 (IntKind.i64.wrap ((IntKind.i64.wrap (bS .u64 (IntKind.u64.wrap (IntKind.i64.wrap (a1+a3))) 1))+a2))),(20,.int .i64 a)]→SH r (own k47 47 A0 n0 c0 a0::L) w→f5 U w:=by
   intro a G U w J X
   unfold dA at G
   refine o1 _ _ ?_
   refine o0 _ _ ?_
   refine ws fun v7 o2=>?_
   refine x_m J rfl fun U J=>?_
   refine x_m J rfl fun U J=>?_
   refine x_v J (oZ rfl (J.ev rfl) (J.ev rfl)) rfl fun U J=>?_
   refine x_m J rfl fun U J=>?_
   refine wn (o2 _ _ ?_)
   refine wp_seq_k fun o3 o4=>?_
   have hj2:∀ (H:(List S47)),bP rec_ a1 a2 a3 a H=some y→∀ (U:Act) (w:World),FR 220 [] U [(0,.slice A0 n0 c0),(1,.int .i64 a1),(3,.int .i64 a3),(4,.func (.func 57) #[] #[]),(18,.int .i64 (IntKind.i64.wrap (bS .u64 (IntKind.u64.wrap (IntKind.i64.wrap (a1+a3))) 1))),(20,.int .i64 a),(24,.int .i64 (IntKind.i64.wrap ((IntKind.i64.wrap ((IntKind.i64.wrap (bS .u64 (IntKind.u64.wrap (IntKind.i64.wrap (a1+a3))) 1))+a2)) - a)))]→SH r (own k47 47 A0 n0 c0 H::L) w→o3 U w:=by
    intro H G U w J X
    unfold bP at G
    refine o4 _ _ ?_
    refine wp_seq_k fun o5 o6=>?_
    have hj3:∀ (N:(List S47)),bQ rec_ a1 a2 a3 a N=some y→∀ (U:Act) (w:World),FR 220 [] U [(0,.slice A0 n0 c0),(3,.int .i64 a3),(4,.func (.func 57) #[] #[]),(18,.int .i64 (IntKind.i64.wrap (bS .u64 (IntKind.u64.wrap (IntKind.i64.wrap (a1+a3))) 1))),(24,.int .i64 (IntKind.i64.wrap ((IntKind.i64.wrap ((IntKind.i64.wrap (bS .u64 (IntKind.u64.wrap (IntKind.i64.wrap (a1+a3))) 1))+a2)) - a)))]→SH r (own k47 47 A0 n0 c0 N::L) w→o5 U w:=by
     intro N G U w J X
     unfold bQ at G
     refine o6 _ _ ?_
     refine wp_seq_k fun o7 o8=>?_
     have hj4:∀ (c3:Bool),cE rec_ a1 a2 a3 a N c3=some y→∀ (U:Act) (w:World),FR 220 [] U [(0,.slice A0 n0 c0),(3,.int .i64 a3),(4,.func (.func 57) #[] #[]),(18,.int .i64 (IntKind.i64.wrap (bS .u64 (IntKind.u64.wrap (IntKind.i64.wrap (a1+a3))) 1))),(24,.int .i64 (IntKind.i64.wrap ((IntKind.i64.wrap ((IntKind.i64.wrap (bS .u64 (IntKind.u64.wrap (IntKind.i64.wrap (a1+a3))) 1))+a2)) - a))),(213,.bool c3)]→SH r (own k47 47 A0 n0 c0 N::L) w→o7 U w:=by
      intro c3 G U w J X
      unfold cE at G
      refine o8 _ _ ?_
      refine zQ J rfl (fun c4=>?_) fun c4=>?_
      ·replace G:=ift c4 G
       refine aC ?_
       refine x_m J rfl fun U J=>?_
       refine x_m J rfl fun U J=>?_
       refine x_m J rfl fun U J=>?_
       refine x_m J rfl fun U J=>?_
       refine x_m J rfl fun U J=>?_
       obtain⟨v8,o9,G⟩:=bnd G
       refine aJb aTh J (hrec (L:=L) N (IntKind.i64.wrap (bS .u64 (IntKind.u64.wrap (IntKind.i64.wrap (a1+a3))) 1)) (IntKind.i64.wrap ((IntKind.i64.wrap ((IntKind.i64.wrap (bS .u64 (IntKind.u64.wrap (IntKind.i64.wrap (a1+a3))) 1))+a2)) - a)) a3 A0 n0 c0 o9 X) (fun v U w hR J=>?_) rfl
       obtain⟨rfl,X⟩:=hR
       refine wpList_nil ?_
       cases G
       refine hQn _ _ ?_
       refine aCy Tryz.results94 J ?_
       exact⟨rfl,X⟩
      replace G:=xK c4 G
      refine wp_skip ?_
      cases G
      refine hQn _ _ ?_
      refine aCy Tryz.results94 J ?_
      exact⟨rfl,X⟩
     refine aC ?_
     refine x_m J rfl fun U J=>?_
     refine x_m J rfl fun U J=>?_
     refine x_v J (qX rfl (J.ev rfl) (J.ev rfl)) rfl fun U J=>?_
     refine x_m J rfl fun U J=>?_
     refine aQz (b:=decide (IntKind.i64.wrap (bS .u64 (IntKind.u64.wrap (IntKind.i64.wrap (a1+a3))) 1)<IntKind.i64.wrap ((IntKind.i64.wrap ((IntKind.i64.wrap (bS .u64 (IntKind.u64.wrap (IntKind.i64.wrap (a1+a3))) 1))+a2)) - a))) (fun D=>?_) fun D=>?_
     ·replace G:=ift D G
      refine aJ D J ?_ rfl
      refine x_m J rfl fun U J=>?_
      refine aJ D J ?_ rfl
      refine x_m J rfl fun U J=>?_
      refine aJ D J ?_ rfl
      refine x_v J (qX rfl (J.ev rfl) (J.ev rfl)) rfl fun U J=>?_
      refine oA D J (fun U J=>?_) rfl
      refine wpList_nil ?_
      exact hj4 (decide (IntKind.i64.wrap ((IntKind.i64.wrap ((IntKind.i64.wrap (bS .u64 (IntKind.u64.wrap (IntKind.i64.wrap (a1+a3))) 1))+a2)) - a)<a3)) G U w (J.sub _ rfl) X
     replace G:=xK D G
     refine xO 3 D J rfl fun U J=>?_
     refine bT D J (fun U J=>?_) rfl
     refine wpList_nil ?_
     exact hj4 false G U w (J.sub _ rfl) X
    refine wp_seq_k fun p0 p1=>?_
    have hj5:∀ (c5:Bool),cB rec_ a1 a2 a3 a H c5=some y→∀ (U:Act) (w:World),FR 220 [] U [(0,.slice A0 n0 c0),(1,.int .i64 a1),(3,.int .i64 a3),(4,.func (.func 57) #[] #[]),(18,.int .i64 (IntKind.i64.wrap (bS .u64 (IntKind.u64.wrap (IntKind.i64.wrap (a1+a3))) 1))),(20,.int .i64 a),(24,.int .i64 (IntKind.i64.wrap ((IntKind.i64.wrap ((IntKind.i64.wrap (bS .u64 (IntKind.u64.wrap (IntKind.i64.wrap (a1+a3))) 1))+a2)) - a))),(199,.bool c5)]→SH r (own k47 47 A0 n0 c0 H::L) w→p0 U w:=by
     intro c5 G U w J X
     unfold cB at G
     refine p1 _ _ ?_
     refine zQ J rfl (fun c6=>?_) fun c6=>?_
     ·replace G:=ift c6 G
      refine aC ?_
      refine x_m J rfl fun U J=>?_
      refine x_m J rfl fun U J=>?_
      refine x_m J rfl fun U J=>?_
      refine x_m J rfl fun U J=>?_
      refine x_m J rfl fun U J=>?_
      obtain⟨p2,p3,G⟩:=bnd G
      refine aJb aTh J (hrec (L:=L) H a1 a (IntKind.i64.wrap (bS .u64 (IntKind.u64.wrap (IntKind.i64.wrap (a1+a3))) 1)) A0 n0 c0 p3 X) (fun v U w hR J=>?_) rfl
      obtain⟨rfl,X⟩:=hR
      refine wpList_nil ?_
      exact hj3 p2 G U w (J.sub _ rfl) X
     replace G:=xK c6 G
     refine wp_skip ?_
     exact hj3 H G U w (J.sub _ rfl) X
    refine aC ?_
    refine x_m J rfl fun U J=>?_
    refine x_m J rfl fun U J=>?_
    refine x_v J (qX rfl (J.ev rfl) (J.ev rfl)) rfl fun U J=>?_
    refine x_m J rfl fun U J=>?_
    refine aQz (b:=decide (a1<a)) (fun E=>?_) fun E=>?_
    ·replace G:=ift E G
     refine aJ E J ?_ rfl
     refine x_m J rfl fun U J=>?_
     refine aJ E J ?_ rfl
     refine x_m J rfl fun U J=>?_
     refine aJ E J ?_ rfl
     refine x_v J (qX rfl (J.ev rfl) (J.ev rfl)) rfl fun U J=>?_
     refine oA E J (fun U J=>?_) rfl
     refine wpList_nil ?_
     exact hj5 (decide (a<IntKind.i64.wrap (bS .u64 (IntKind.u64.wrap (IntKind.i64.wrap (a1+a3))) 1))) G U w (J.sub _ rfl) X
    replace G:=xK E G
    refine xO 3 E J rfl fun U J=>?_
    refine bT E J (fun U J=>?_) rfl
    refine wpList_nil ?_
    exact hj5 false G U w (J.sub _ rfl) X
   refine wp_seq_k fun p4 p5=>?_
   have hj6:∀ (c7:Bool),cD rec_ a0 a1 a2 a3 a c7=some y→∀ (U:Act) (w:World),FR 220 [] U [(0,.slice A0 n0 c0),(1,.int .i64 a1),(2,.int .i64 a2),(3,.int .i64 a3),(4,.func (.func 57) #[] #[]),(18,.int .i64 (IntKind.i64.wrap (bS .u64 (IntKind.u64.wrap (IntKind.i64.wrap (a1+a3))) 1))),(20,.int .i64 a),(24,.int .i64 (IntKind.i64.wrap ((IntKind.i64.wrap ((IntKind.i64.wrap (bS .u64 (IntKind.u64.wrap (IntKind.i64.wrap (a1+a3))) 1))+a2)) - a))),(185,.bool c7)]→SH r (own k47 47 A0 n0 c0 a0::L) w→p4 U w:=by
    intro c7 G U w J X
    unfold cD at G
    refine p5 _ _ ?_
    refine zQ J rfl (fun c8=>?_) fun c8=>?_
    ·replace G:=ift c8 G
     refine aC ?_
     refine x_m J rfl fun U J=>?_
     refine x_m J rfl fun U J=>?_
     refine x_m J rfl fun U J=>?_
     refine x_m J rfl fun U J=>?_
     refine x_m J rfl fun U J=>?_
     obtain⟨p6,p7,G⟩:=bnd G
     refine aJb aZt J (tA p7 X :) (fun v U w hR J=>?_) rfl
     obtain⟨rfl,X⟩:=hR
     refine wpList_nil ?_
     exact hj2 p6 G U w (J.sub _ rfl) X
    replace G:=xK c8 G
    refine wp_skip ?_
    exact hj2 a0 G U w (J.sub _ rfl) X
   refine aC ?_
   refine x_m J rfl fun U J=>?_
   refine x_m J rfl fun U J=>?_
   refine x_v J (qX rfl (J.ev rfl) (J.ev rfl)) rfl fun U J=>?_
   refine x_m J rfl fun U J=>?_
   refine aQz (b:=decide (a<a2)) (fun F=>?_) fun F=>?_
   ·replace G:=ift F G
    refine aJ F J ?_ rfl
    refine x_m J rfl fun U J=>?_
    refine aJ F J ?_ rfl
    refine x_m J rfl fun U J=>?_
    refine aJ F J ?_ rfl
    refine x_v J (qX rfl (J.ev rfl) (J.ev rfl)) rfl fun U J=>?_
    refine oA F J (fun U J=>?_) rfl
    refine wpList_nil ?_
    exact hj6 (decide (a2<IntKind.i64.wrap ((IntKind.i64.wrap ((IntKind.i64.wrap (bS .u64 (IntKind.u64.wrap (IntKind.i64.wrap (a1+a3))) 1))+a2)) - a))) G U w (J.sub _ rfl) X
   replace G:=xK F G
   refine xO 3 F J rfl fun U J=>?_
   refine bT F J (fun U J=>?_) rfl
   refine wpList_nil ?_
   exact hj6 false G U w (J.sub _ rfl) X
  obtain⟨t229,p8,G⟩:=bnd G
  have p9:∀ (T:Int),(T)=t229→∀ (U:Act) (w:World),FR 220 [] U [(0,.slice A0 n0 c0),(1,.int .i64 a1),(2,.int .i64 a2),(3,.int .i64 a3),(4,.func (.func 57) #[] #[]),(18,.int .i64 (IntKind.i64.wrap (bS .u64 (IntKind.u64.wrap (IntKind.i64.wrap (a1+a3))) 1))),(19,.int .i64 (IntKind.i64.wrap ((IntKind.i64.wrap (bS .u64 (IntKind.u64.wrap (IntKind.i64.wrap (a1+a3))) 1))+a2))),(20,.int .i64 T)]→SH r (own k47 47 A0 n0 c0 a0::L) w→f5 U w:=by
   intro T ht U w J X
   subst ht
   replace G:dU rec_ a0 a1 a2 a3 T=some y:=G
   unfold dU at G
   exact hb7 T G U w (J.sub _ rfl) X
  refine aD p8 (fun s U w=>FR 220 [] U [(0,.slice A0 n0 c0),(1,.int .i64 a1),(2,.int .i64 a2),(3,.int .i64 a3),(4,.func (.func 57) #[] #[]),(18,.int .i64 (IntKind.i64.wrap (bS .u64 (IntKind.u64.wrap (IntKind.i64.wrap (a1+a3))) 1))),(19,.int .i64 (IntKind.i64.wrap ((IntKind.i64.wrap (bS .u64 (IntKind.u64.wrap (IntKind.i64.wrap (a1+a3))) 1))+a2))),(20,.int .i64 s.1),(21,.int .i64 s.2),(22,.int .i64 (IntKind.i64.wrap ((IntKind.i64.wrap ((IntKind.i64.wrap (bS .u64 (IntKind.u64.wrap (IntKind.i64.wrap (a1+a3))) 1))+a2)) - 1)))]∧SH r (own k47 47 A0 n0 c0 a0::L) w) ⟨J.sub _ rfl,X⟩ ?_
  intro v9 q0 f6 G q1 q2 U w hLab
  obtain⟨t,x⟩:=q0
  replace G:bF a0 a1 a2 a3 t x=some f6:=G
  unfold bF at G
  try dsimp only at hLab
  obtain⟨J,X⟩:=hLab
  refine wp_seq_k fun w0 q3=>?_
  refine ws fun w1 q4=>?_
  refine x_m J rfl fun U J=>?_
  refine x_m J rfl fun U J=>?_
  refine x_v J (qX rfl (J.ev rfl) (J.ev rfl)) rfl fun U J=>?_
  refine wn (q4 _ _ ?_)
  refine zQ J rfl (fun c9=>?_) fun c9=>?_
  ·replace G:=ift c9 G
   refine wp_skip ?_
   refine q3 _ _ ?_
   refine aA fun q5 q6=>?_
   have hb8:∀ (d0:Int) (d1:Int),cY d0 d1=some f6→∀ (U:Act) (w:World),FR 220 [] U [(0,.slice A0 n0 c0),(1,.int .i64 a1),(2,.int .i64 a2),(3,.int .i64 a3),(4,.func (.func 57) #[] #[]),(18,.int .i64 (IntKind.i64.wrap (bS .u64 (IntKind.u64.wrap (IntKind.i64.wrap (a1+a3))) 1))),(19,.int .i64 (IntKind.i64.wrap ((IntKind.i64.wrap (bS .u64 (IntKind.u64.wrap (IntKind.i64.wrap (a1+a3))) 1))+a2))),(20,.int .i64 d0),(21,.int .i64 d1),(22,.int .i64 (IntKind.i64.wrap ((IntKind.i64.wrap ((IntKind.i64.wrap (bS .u64 (IntKind.u64.wrap (IntKind.i64.wrap (a1+a3))) 1))+a2)) - 1)))]→SH r (own k47 47 A0 n0 c0 a0::L) w→q5 U w:=by
    intro d0 d1 G U w J X
    unfold cY at G
    refine q6 _ _ ?_
    cases G
    exact⟨_,q1 _ rfl,J.sub _ rfl,X⟩
   refine ws fun w2 q7=>?_
   refine x_m J rfl fun U J=>?_
   refine x_m J rfl fun U J=>?_
   refine x_v J (iP rfl (J.ev rfl) (J.ev rfl)) rfl fun U J=>?_
   refine x_v J (aY uu3 aEf rfl (J.ev rfl)) rfl fun U J=>?_
   refine x_v J (qV rfl (J.ev rfl) (J.ev rfl) (by decide)) rfl fun U J=>?_
   refine x_v J (aY aEf uu3 rfl (J.ev rfl)) rfl fun U J=>?_
   refine x_m J rfl fun U J=>?_
   refine wn (q7 _ _ ?_)
   refine wp_seq_k fun w3 q8=>?_
   refine cP [0,0,0,0,12,30,62,0,0,384,896,2047,4095,8191] [11] rfl J X (by kernel_rfl) (by kernel_rfl) (by kernel_rfl) (by kernel_rfl) fun w X=>?_
   obtain⟨p,f7,G⟩:=bnd G
   obtain⟨cs,hV,q9⟩:=el (X.rd 0 rfl) f7
   obtain rfl:=hV
   obtain⟨q,f8,G⟩:=bnd G
   obtain⟨cs,hV,r0⟩:=el (X.rd 0 rfl) f8
   obtain rfl:=hV
   refine⟨[(0,.func (.func 57) #[] #[]),(1,.slice A0 n0 c0),(2,.int .i64 (IntKind.i64.wrap ((IntKind.i64.wrap ((IntKind.i64.wrap (bS .u64 (IntKind.u64.wrap (IntKind.i64.wrap (a1+a3))) 1))+a2)) - 1))),(3,.int .i64 (IntKind.i64.wrap (bS .u64 (IntKind.u64.wrap (IntKind.i64.wrap (t+x))) 1))),(4,.int .i64 (IntKind.i64.wrap ((IntKind.i64.wrap ((IntKind.i64.wrap ((IntKind.i64.wrap (bS .u64 (IntKind.u64.wrap (IntKind.i64.wrap (a1+a3))) 1))+a2)) - 1)) - (IntKind.i64.wrap (bS .u64 (IntKind.u64.wrap (IntKind.i64.wrap (t+x))) 1))))),(5,.pointer (some (ea A0 ((IntKind.i64.wrap ((IntKind.i64.wrap ((IntKind.i64.wrap ((IntKind.i64.wrap (bS .u64 (IntKind.u64.wrap (IntKind.i64.wrap (a1+a3))) 1))+a2)) - 1)) - (IntKind.i64.wrap (bS .u64 (IntKind.u64.wrap (IntKind.i64.wrap (t+x))) 1)))).toNat * 5)))),(6,.agg #[.int .u64 p.f0,.int .i64 p.f1,.int .i64 p.f2,str p.f3,.float .f64 p.f4]),(7,.slice A0 n0 c0),(8,.int .i64 (IntKind.i64.wrap (bS .u64 (IntKind.u64.wrap (IntKind.i64.wrap (t+x))) 1))),(9,.pointer (some (ea A0 ((IntKind.i64.wrap (bS .u64 (IntKind.u64.wrap (IntKind.i64.wrap (t+x))) 1)).toNat * 5)))),(10,.agg #[.int .u64 q.f0,.int .i64 q.f1,.int .i64 q.f2,str q.f3,.float .f64 q.f4])],?_⟩
   refine dF [0,1,2,3,4,5,6,7,8,9,10] [11] (by kernel_rfl) ⟨pm rfl,pm rfl,pm rfl,pm rfl,pt [(160,.int .i64 (IntKind.i64.wrap ((IntKind.i64.wrap ((IntKind.i64.wrap (bS .u64 (IntKind.u64.wrap (IntKind.i64.wrap (a1+a3))) 1))+a2)) - 1))),(161,.int .i64 (IntKind.i64.wrap (bS .u64 (IntKind.u64.wrap (IntKind.i64.wrap (t+x))) 1)))] rfl (fun U J=>oZ rfl (J.ev rfl) (J.ev rfl)),pt [(159,.slice A0 n0 c0),(162,.int .i64 (IntKind.i64.wrap ((IntKind.i64.wrap ((IntKind.i64.wrap ((IntKind.i64.wrap (bS .u64 (IntKind.u64.wrap (IntKind.i64.wrap (a1+a3))) 1))+a2)) - 1)) - (IntKind.i64.wrap (bS .u64 (IntKind.u64.wrap (IntKind.i64.wrap (t+x))) 1)))))] rfl (fun U J=>fH eG cH (X.rd 0 rfl) f7 J rfl rfl rfl),pt [(163,.pointer (some (ea A0 ((IntKind.i64.wrap ((IntKind.i64.wrap ((IntKind.i64.wrap ((IntKind.i64.wrap (bS .u64 (IntKind.u64.wrap (IntKind.i64.wrap (a1+a3))) 1))+a2)) - 1)) - (IntKind.i64.wrap (bS .u64 (IntKind.u64.wrap (IntKind.i64.wrap (t+x))) 1)))).toNat * 5))))] rfl (fun U J=>nL (cs:=[.int .u64 p.f0,.int .i64 p.f1,.int .i64 p.f2,str p.f3,.float .f64 p.f4]) lL cH (fun j u h=>by rw [eU]; exact q9 _ _ h) J rfl rfl rfl),pm rfl,pm rfl,pt [(165,.slice A0 n0 c0),(166,.int .i64 (IntKind.i64.wrap (bS .u64 (IntKind.u64.wrap (IntKind.i64.wrap (t+x))) 1)))] rfl (fun U J=>fH eG cH (X.rd 0 rfl) f8 J rfl rfl rfl),pt [(167,.pointer (some (ea A0 ((IntKind.i64.wrap (bS .u64 (IntKind.u64.wrap (IntKind.i64.wrap (t+x))) 1)).toNat * 5))))] rfl (fun U J=>nL (cs:=[.int .u64 q.f0,.int .i64 q.f1,.int .i64 q.f2,str q.f3,.float .f64 q.f4]) lL cH (fun j u h=>by rw [eU]; exact r0 _ _ h) J rfl rfl rfl),trivial⟩ ⟨et [(158,.func (.func 57) #[] #[]),(164,.agg #[.int .u64 p.f0,.int .i64 p.f1,.int .i64 p.f2,str p.f3,.float .f64 p.f4]),(168,.agg #[.int .u64 q.f0,.int .i64 q.f1,.int .i64 q.f2,str q.f3,.float .f64 q.f4])] rfl (fun U J K hK=>?_),trivial⟩
   obtain⟨W,r1,G⟩:=bnd G
   refine aB6 (vs:=#[.agg #[.int .u64 p.f0,.int .i64 p.f1,.int .i64 p.f2,str p.f3,.float .f64 p.f4],.agg #[.int .u64 q.f0,.int .i64 q.f1,.int .i64 q.f2,str q.f3,.float .f64 q.f4]]) aUi J (sK r1 X :) (fun v w hR=>?_) rfl
   obtain⟨rfl,X⟩:=hR
   refine hK _ [(12,.bool (decide (W<0))),(13,.bool (!(decide (W<0))))] _ rfl ?_
   refine gK [12,13] (by kernel_rfl) ⟨pt [(169,.int .i64 W)] rfl (fun U J=>qX rfl (J.ev rfl) (J.ev rfl)),pt [(170,.bool (decide (W<0)))] rfl (fun U J=>aCc rfl (J.ev rfl)),trivial⟩ ⟨by kernel_rfl,by kernel_rfl⟩ [(0,.slice A0 n0 c0),(1,.int .i64 a1),(2,.int .i64 a2),(3,.int .i64 a3),(4,.func (.func 57) #[] #[]),(18,.int .i64 (IntKind.i64.wrap (bS .u64 (IntKind.u64.wrap (IntKind.i64.wrap (a1+a3))) 1))),(19,.int .i64 (IntKind.i64.wrap ((IntKind.i64.wrap (bS .u64 (IntKind.u64.wrap (IntKind.i64.wrap (a1+a3))) 1))+a2))),(20,.int .i64 t),(21,.int .i64 x),(22,.int .i64 (IntKind.i64.wrap ((IntKind.i64.wrap ((IntKind.i64.wrap (bS .u64 (IntKind.u64.wrap (IntKind.i64.wrap (a1+a3))) 1))+a2)) - 1))),(23,.int .i64 (IntKind.i64.wrap (bS .u64 (IntKind.u64.wrap (IntKind.i64.wrap (t+x))) 1))),(171,.bool (!(decide (W<0))))] rfl (fun U J=>?_)
   refine q8 _ _ ?_
   refine zQ J rfl (fun d2=>?_) fun d2=>?_
   ·replace G:=ift d2 G
    refine aC ?_
    refine x_m J rfl fun U J=>?_
    refine x_v J (iP rfl (J.ev rfl) (J.ev rfl)) rfl fun U J=>?_
    refine x_m J rfl fun U J=>?_
    refine wpList_nil ?_
    exact hb8 (IntKind.i64.wrap ((IntKind.i64.wrap (bS .u64 (IntKind.u64.wrap (IntKind.i64.wrap (t+x))) 1))+1)) x G U w (J.sub _ rfl) X
   replace G:=xK d2 G
   refine aC ?_
   refine x_m J rfl fun U J=>?_
   refine x_m J rfl fun U J=>?_
   refine wpList_nil ?_
   exact hb8 t (IntKind.i64.wrap (bS .u64 (IntKind.u64.wrap (IntKind.i64.wrap (t+x))) 1)) G U w (J.sub _ rfl) X
  replace G:=xK c9 G
  refine wp_exit ?_
  cases G
  exact p9 t (q2 _ rfl) U w (J.sub _ rfl) X
 refine ws fun w4 r2=>?_
 refine x_m J rfl fun U J=>?_
 refine x_m J rfl fun U J=>?_
 refine x_v J (aBi rfl (J.ev rfl) (J.ev rfl)) rfl fun U J=>?_
 refine wn (r2 _ _ ?_)
 refine zQ J rfl (fun d3=>?_) fun d3=>?_
 ·replace G:=ift d3 G
  refine ws fun w5 r3=>?_
  refine x_m J rfl fun U J=>?_
  refine x_m J rfl fun U J=>?_
  refine x_v J (oZ rfl (J.ev rfl) (J.ev rfl)) rfl fun U J=>?_
  refine x_m J rfl fun U J=>?_
  refine wn (r3 _ _ ?_)
  refine aC ?_
  refine x_m J rfl fun U J=>?_
  refine x_m J rfl fun U J=>?_
  refine wpList_nil ?_
  exact hj1 (IntKind.i64.wrap ((IntKind.i64.wrap ((IntKind.i64.wrap (bS .u64 (IntKind.u64.wrap (IntKind.i64.wrap (a1+a3))) 1))+a2)) - a3)) (IntKind.i64.wrap (bS .u64 (IntKind.u64.wrap (IntKind.i64.wrap (a1+a3))) 1)) G U w (J.sub _ rfl) X
 replace G:=xK d3 G
 refine ws fun w6 r4=>?_
 refine x_m J rfl fun U J=>?_
 refine x_m J rfl fun U J=>?_
 refine wn (r4 _ _ ?_)
 refine aC ?_
 refine x_m J rfl fun U J=>?_
 refine x_m J rfl fun U J=>?_
 refine wpList_nil ?_
 exact hj1 a1 a2 G U w (J.sub _ rfl) X
theorem rA (k:Nat):∀ {r:World} {L:List HP} {w:World} (a0:(List S47)) (a1:Int) (a2:Int) (a3:Int) (A0:Option Addr) (n0:Nat) (c0:Nat) {y:((List S47))} (G:aE k a0 a1 a2 a3=some y) (X:SH r (own k47 47 A0 n0 c0 a0::L) w),Ret Tryz.prog 94 #[.slice A0 n0 c0,.int .i64 a1,.int .i64 a2,.int .i64 a3,.func (.func 57) #[] #[]] w fun v w'=>v=.tuple #[]∧SH r (own k47 47 A0 n0 c0 y::L) w':=by
 induction k with
 | zero=>intros; rename_i G _; cases G
 | succ k ih=>exact rB (aE k) ih
section
variable {r:World} {L:List HP} {w:World} {Z:Nat→Prop} {wz:World}
theorem kT {a0 a1 a2 a3 A0 n0 c0 y} (G:dR a0 a1 a2 a3=some y) (X:SH r (own k47 47 A0 n0 c0 a0::L) w) :
  Ret Tryz.prog 94 #[.slice A0 n0 c0,.int .i64 a1,.int .i64 a2,.int .i64 a3,.func (.func 57) #[] #[]] w fun v w'=>v=.tuple #[]∧SH r (own k47 47 A0 n0 c0 y::L) w':=rA 64 a0 a1 a2 a3 A0 n0 c0 G X
theorem iX {a0 a1 a2 A0 n0 c0 y} (G:cA a0 a1 a2=some y) (X:SH r (own k47 47 A0 n0 c0 a0::L) w) :
  Ret Tryz.prog 93 #[.slice A0 n0 c0,.int .i64 a1,.int .i64 a2,.func (.func 57) #[] #[]] w fun v w'=>v=.tuple #[]∧SH r (own k47 47 A0 n0 c0 y::L) w':=by
 refine enter Tryz.func93 rfl Tryz.ntmps93 [(0,_),(1,_),(2,_),(3,_)] rfl (by simp) ?_
 intro U J Qf hQ hQn
 unfold cA at G
 refine nz 3 J rfl fun U J=>aA fun z I=>?_
 have hb1:∀p,fC p=some y→∀U w,FR 53 [] U [(0,.slice A0 n0 c0),(3,.func (.func 57) #[] #[])]→SH r (own k47 47 A0 n0 c0 p::L) w→z U w:=by
  intro p G U w J X
  unfold fC at G
  cases G
  refine I _ _ (hQn _ _ ?_)
  exact aCy Tryz.results93 J ⟨rfl,X⟩
 obtain⟨M,N,G⟩:=bnd G
 have O:∀k,(k)=M→∀U w,FR 53 [] U [(0,.slice A0 n0 c0),(3,.func (.func 57) #[] #[])]→SH r (own k47 47 A0 n0 c0 k::L) w→z U w:=by
  intro k ht U w J X
  subst ht
  replace G:eT k=some y:=G
  unfold eT at G
  exact hb1 k G U w (J.sub _ rfl) X
 refine aD N (fun s U w=>FR 53 [] U [(0,.slice A0 n0 c0),(1,.int .i64 a1),(2,.int .i64 a2),(3,.func (.func 57) #[] #[]),(8,.int .i64 s.2)]∧SH r (own k47 47 A0 n0 c0 s.1::L) w) ⟨J.sub _ rfl,X⟩ ?_
 intro c2 P q G Q R U w hLab
 obtain⟨A,i⟩:=P
 replace G:aG a1 a2 A i=some q:=G
 unfold aG at G
 try dsimp only at hLab
 obtain⟨J,X⟩:=hLab
 refine wp_seq_k fun c3 S=>nz 3 J rfl fun U J=>bA J G rfl (fun T G=>?_) fun T G=>?_
 ·refine wp_skip (S _ _ ?_)
  refine wp_seq_k fun c4 W=>aA fun c5 Y=>nz 2 J rfl fun U J=>aA fun B Z=>?_
  have hb2:∀t,dE i t=some q→∀U w,FR 53 [] U [(0,.slice A0 n0 c0),(1,.int .i64 a1),(2,.int .i64 a2),(3,.func (.func 57) #[] #[]),(8,.int .i64 i)]→SH r (own k47 47 A0 n0 c0 t::L) w→B U w:=by
   intro t G U w J X
   unfold dE at G
   refine Z _ _ (Y _ _ ?_)
   refine W _ _ (aC ?_)
   refine nk 3 J rfl fun U J=>?_
   cases G
   exact⟨_,Q _ rfl,J.sub _ rfl,X⟩
  obtain⟨a3,a4,G⟩:=bnd G
  have a5:∀l,(l)=a3→∀U w,FR 53 [] U [(0,.slice A0 n0 c0),(1,.int .i64 a1),(2,.int .i64 a2),(3,.func (.func 57) #[] #[]),(8,.int .i64 i)]→SH r (own k47 47 A0 n0 c0 l::L) w→B U w:=by
   intro l ht U w J X
   subst ht
   replace G:cN i l=some q:=G
   unfold cN at G
   exact hb2 l G U w (J.sub _ rfl) X
  refine aD a4 (fun s U w=>FR 53 [] U [(0,.slice A0 n0 c0),(1,.int .i64 a1),(2,.int .i64 a2),(3,.func (.func 57) #[] #[]),(8,.int .i64 i),(9,.int .i64 s.2)]∧SH r (own k47 47 A0 n0 c0 s.1::L) w) ⟨J.sub _ rfl,X⟩ ?_
  intro c6 a6 C G a7 a8 U w hLab
  obtain⟨n,a⟩:=a6
  replace G:aP a1 n a=some C:=G
  unfold aP at G
  try dsimp only at hLab
  obtain⟨J,X⟩:=hLab
  refine wp_seq_k fun c7 a9=>wp_seq_k fun b1 b2=>?_
  have hj1:∀x,cG n a x=some C→∀U w,FR 53 [] U [(0,.slice A0 n0 c0),(1,.int .i64 a1),(2,.int .i64 a2),(3,.func (.func 57) #[] #[]),(8,.int .i64 i),(9,.int .i64 a),(34,.bool x)]→SH r (own k47 47 A0 n0 c0 n::L) w→b1 U w:=by
   intro x G U w J X
   unfold cG at G
   refine b2 _ _ (bA J G rfl (fun b3 G=>?_) fun b3 G=>?_)
   ·refine wp_skip (a9 _ _ ?_)
    refine wp_seq_k fun c8 b4=>aA fun c9 b5=>cP [0,0,0,0,8,0,0,64,224,480,0,0,3072,7168,16355,32739,65535,131071] [15,17] rfl J X (by kernel_rfl) (by kernel_rfl) (by kernel_rfl) (by kernel_rfl) fun w X=>?_
    obtain⟨f,D,G⟩:=bnd G
    obtain⟨cs,hV,b6⟩:=el (X.rd 0 rfl) D
    obtain rfl:=hV
    obtain⟨g,o,G⟩:=bnd G
    obtain⟨cs,hV,b7⟩:=el (X.rd 0 rfl) o
    obtain rfl:=hV
    refine⟨[(0,.slice A0 n0 c0),(1,.int .i64 a),(2,.slice A0 n0 c0),(3,.int .i64 a),(4,.int .i64 (IntKind.i64.wrap (a - 1))),(5,.slice A0 n0 c0),(6,.int .i64 a),(7,.int .i64 (IntKind.i64.wrap (a - 1))),(8,.pointer (some (ea A0 ((IntKind.i64.wrap (a - 1)).toNat * 5)))),(9,.agg #[.int .u64 f.f0,.int .i64 f.f1,.int .i64 f.f2,str f.f3,.float .f64 f.f4]),(10,.slice A0 n0 c0),(11,.int .i64 a),(12,.pointer (some (ea A0 (a.toNat * 5)))),(13,.agg #[.int .u64 g.f0,.int .i64 g.f1,.int .i64 g.f2,str g.f3,.float .f64 g.f4]),(14,.pointer (some (ea A0 (a.toNat * 5))))],?_⟩
    refine dF [0,1,2,3,4,5,6,7,8,9,10,11,12,13,14] [15] (by kernel_rfl) ⟨pm rfl,pm rfl,pm rfl,pm rfl,pt [(40,_)] rfl (fun U J=>oZ rfl (J.ev rfl) (J.ev rfl)),pm rfl,pm rfl,pt [(43,_)] rfl (fun U J=>oZ rfl (J.ev rfl) (J.ev rfl)),pt [(42,_),(44,_)] rfl (fun U J=>fH eG cH (X.rd 0 rfl) D J rfl rfl rfl),pt [(45,_)] rfl (fun U J=>nL (cs:=[.int .u64 f.f0,.int .i64 f.f1,.int .i64 f.f2,str f.f3,.float .f64 f.f4]) lL cH (fun j u h=>by rw [eU]; exact b6 _ _ h) J rfl rfl rfl),pm rfl,pm rfl,pt [(47,_),(48,_)] rfl (fun U J=>fH eG cH (X.rd 0 rfl) o J rfl rfl rfl),pt [(49,_)] rfl (fun U J=>nL (cs:=[.int .u64 g.f0,.int .i64 g.f1,.int .i64 g.f2,str g.f3,.float .f64 g.f4]) lL cH (fun j u h=>by rw [eU]; exact b7 _ _ h) J rfl rfl rfl),pt [(37,_),(38,_)] rfl (fun U J=>fH eG cH (X.rd 0 rfl) o J rfl rfl rfl),trivial⟩ ⟨et [(46,_),(51,_)] rfl (fun U J K hK=>?_),trivial⟩
    refine xD (z':=f) (off:=0) (vs:=[.int .u64 f.f0,.int .i64 f.f1,.int .i64 f.f2,str f.f3,.float .f64 f.f4]) 0 cH J X rfl (dQ o).2.2 (fun c h=>by cases h; rfl) (fun  w X=>?_) rfl rfl rfl rfl rfl rfl
    obtain⟨d0,E,G⟩:=bnd G
    refine hK _ [(16,.pointer (some (ea A0 ((IntKind.i64.wrap (a - 1)).toNat * 5))))] _ rfl (dF [2,3,4,16] [17] (by kernel_rfl) ⟨pm rfl,pm rfl,pt [(40,_)] rfl (fun U J=>oZ rfl (J.ev rfl) (J.ev rfl)),pt [(39,_),(41,_)] rfl (fun U J=>fH eG cH (X.rd 0 rfl) E J rfl rfl rfl),trivial⟩ ⟨et [(50,_),(52,_)] rfl (fun U J K hK=>?_),trivial⟩)
    refine xD (z':=g) (off:=0) (vs:=[.int .u64 g.f0,.int .i64 g.f1,.int .i64 g.f2,str g.f3,.float .f64 g.f4]) 0 cH J X rfl (dQ E).2.2 (fun c h=>by cases h; rfl) (fun  w X=>?_) rfl rfl rfl rfl rfl rfl
    refine hK _ [] _ rfl (gK [] (by kernel_rfl) trivial ⟨by kernel_rfl,by kernel_rfl⟩ [(0,_),(1,_),(2,_),(3,_),(8,_),(9,_)] rfl (fun U J=>?_))
    refine b5 _ _ (b4 _ _ ?_)
    refine aC (nk 3 J rfl fun U J=>?_)
    cases G
    exact⟨_,a7 _ rfl,J.sub _ rfl,X⟩
   cases G
   exact wp_exit (a5 n (a8 _ rfl) U w (J.sub _ rfl) X)
  refine cP [0,0,3,7,15,15,15,111,239,15,15,1039,3599,7695,16383,32767,65535] [14] rfl J X (by kernel_rfl) (by kernel_rfl) (by kernel_rfl) (by kernel_rfl) fun w X=>bcG G (fun b G=>?_) fun b G=>?_
  ·obtain⟨d,F,G⟩:=bnd G
   obtain⟨cs,hV,b8⟩:=el (X.rd 0 rfl) F
   obtain rfl:=hV
   obtain⟨e,H,G⟩:=bnd G
   obtain⟨cs,hV,b9⟩:=el (X.rd 0 rfl) H
   obtain rfl:=hV
   refine⟨[(0,.int .i64 a),(1,.int .i64 a1),(2,.bool (decide (a1<a))),(3,.bool (decide (a1<a))),(4,.func (.func 57) #[] #[]),(5,.slice A0 n0 c0),(6,.int .i64 a),(7,.pointer (some (ea A0 (a.toNat * 5)))),(8,.agg #[.int .u64 d.f0,.int .i64 d.f1,.int .i64 d.f2,str d.f3,.float .f64 d.f4]),(9,.slice A0 n0 c0),(10,.int .i64 a),(11,.int .i64 (IntKind.i64.wrap (a - 1))),(12,.pointer (some (ea A0 ((IntKind.i64.wrap (a - 1)).toNat * 5)))),(13,.agg #[.int .u64 e.f0,.int .i64 e.f1,.int .i64 e.f2,str e.f3,.float .f64 e.f4])],?_⟩
   refine dF [0,1,2,3,4,5,6,7,8,9,10,11,12,13] [14] (by kernel_rfl) ⟨pm rfl,pm rfl,pt [(18,_),(19,_)] rfl (fun U J=>aBi rfl (J.ev rfl) (J.ev rfl)),pm rfl,iB rfl rfl rfl rfl [(3,.func (.func 57) #[] #[]),(21,.bool (decide (a1<a)))] rfl b (fun U J=>mK J rfl rfl) rfl,iB rfl rfl rfl rfl [(0,.slice A0 n0 c0),(21,.bool (decide (a1<a)))] rfl b (fun U J=>mK J rfl rfl) rfl,iB rfl rfl rfl rfl [(9,.int .i64 a),(21,.bool (decide (a1<a)))] rfl b (fun U J=>mK J rfl rfl) rfl,iB rfl rfl rfl rfl [(21,.bool (decide (a1<a))),(23,.slice A0 n0 c0),(24,.int .i64 a)] rfl b (fun U J=>fH eG cH (X.rd 0 rfl) F J rfl rfl rfl) rfl,iB rfl rfl rfl rfl [(21,.bool (decide (a1<a))),(25,.pointer (some (ea A0 (a.toNat * 5))))] rfl b (fun U J=>nL (cs:=[.int .u64 d.f0,.int .i64 d.f1,.int .i64 d.f2,str d.f3,.float .f64 d.f4]) lL cH (fun j u h=>by rw [eU]; exact b8 _ _ h) J rfl rfl rfl) rfl,iB rfl rfl rfl rfl [(0,.slice A0 n0 c0),(21,.bool (decide (a1<a)))] rfl b (fun U J=>mK J rfl rfl) rfl,iB rfl rfl rfl rfl [(9,.int .i64 a),(21,.bool (decide (a1<a)))] rfl b (fun U J=>mK J rfl rfl) rfl,iB rfl rfl rfl rfl [(21,.bool (decide (a1<a))),(28,.int .i64 a)] rfl b (fun U J=>oZ rfl (J.ev rfl) (J.ev rfl)) rfl,iB rfl rfl rfl rfl [(21,.bool (decide (a1<a))),(27,.slice A0 n0 c0),(29,.int .i64 (IntKind.i64.wrap (a - 1)))] rfl b (fun U J=>fH eG cH (X.rd 0 rfl) H J rfl rfl rfl) rfl,iB rfl rfl rfl rfl [(21,.bool (decide (a1<a))),(30,.pointer (some (ea A0 ((IntKind.i64.wrap (a - 1)).toNat * 5))))] rfl b (fun U J=>nL (cs:=[.int .u64 e.f0,.int .i64 e.f1,.int .i64 e.f2,str e.f3,.float .f64 e.f4]) lL cH (fun j u h=>by rw [eU]; exact b9 _ _ h) J rfl rfl rfl) rfl,trivial⟩ ⟨aYs rfl rfl rfl [(21,.bool (decide (a1<a))),(22,.func (.func 57) #[] #[]),(26,.agg #[.int .u64 d.f0,.int .i64 d.f1,.int .i64 d.f2,str d.f3,.float .f64 d.f4]),(31,.agg #[.int .u64 e.f0,.int .i64 e.f1,.int .i64 e.f2,str e.f3,.float .f64 e.f4])] rfl b (fun U J K hK=>?_) rfl,trivial⟩
   obtain⟨m,c1,G⟩:=bnd G
   refine aB6 (vs:=#[.agg #[.int .u64 d.f0,.int .i64 d.f1,.int .i64 d.f2,str d.f3,.float .f64 d.f4],.agg #[.int .u64 e.f0,.int .i64 e.f1,.int .i64 e.f2,str e.f3,.float .f64 e.f4]]) aUi J (sK c1 X :) (fun v w hR=>?_) rfl
   obtain⟨rfl,X⟩:=hR
   refine hK _ [(15,.bool (decide (m<0))),(16,.bool (decide (m<0)))] _ rfl (gK [15,16] (by kernel_rfl) ⟨iB rfl rfl rfl rfl [(21,.bool (decide (a1<a))),(32,.int .i64 m)] rfl b (fun U J=>qX rfl (J.ev rfl) (J.ev rfl)) rfl,pt [(21,.bool (decide (a1<a))),(33,.bool (decide (m<0)))] rfl (fun U J=>aAr b J rfl rfl rfl),trivial⟩ ⟨by kernel_rfl,by kernel_rfl⟩ [(0,_),(1,_),(2,_),(3,_),(8,_),(9,_),(22,_),(23,_),(24,_),(26,_),(27,_),(28,_),(29,_),(31,_),(32,_),(33,_),(34,_)] rfl (fun U J=>?_))
   exact hj1 (decide (m<0)) G U w (J.sub _ rfl) X
  refine⟨[(0,.int .i64 a),(1,.int .i64 a1),(2,.bool (decide (a1<a))),(3,.bool (decide (a1<a))),(4,undef),(5,undef),(6,undef),(7,undef),(8,undef),(9,undef),(10,undef),(11,undef),(12,undef),(13,undef)],?_⟩
  refine dF [0,1,2,3,4,5,6,7,8,9,10,11,12,13] [14] (by kernel_rfl) ⟨pm rfl,pm rfl,pt [(18,_),(19,_)] rfl (fun U J=>aBi rfl (J.ev rfl) (J.ev rfl)),pm rfl,eH rfl rfl rfl rfl [(3,.func (.func 57) #[] #[]),(21,.bool (decide (a1<a)))] rfl b rfl,eH rfl rfl rfl rfl [(0,.slice A0 n0 c0),(21,.bool (decide (a1<a)))] rfl b rfl,eH rfl rfl rfl rfl [(9,.int .i64 a),(21,.bool (decide (a1<a)))] rfl b rfl,eH rfl rfl rfl rfl [(21,.bool (decide (a1<a))),(23,undef),(24,undef)] rfl b rfl,eH rfl rfl rfl rfl [(21,.bool (decide (a1<a))),(25,undef)] rfl b rfl,eH rfl rfl rfl rfl [(0,.slice A0 n0 c0),(21,.bool (decide (a1<a)))] rfl b rfl,eH rfl rfl rfl rfl [(9,.int .i64 a),(21,.bool (decide (a1<a)))] rfl b rfl,eH rfl rfl rfl rfl [(21,.bool (decide (a1<a))),(28,undef)] rfl b rfl,eH rfl rfl rfl rfl [(21,.bool (decide (a1<a))),(27,undef),(29,undef)] rfl b rfl,eH rfl rfl rfl rfl [(21,.bool (decide (a1<a))),(30,undef)] rfl b rfl,trivial⟩ ⟨?_,trivial⟩
  refine aVu rfl rfl rfl [(21,.bool (decide (a1<a))),(22,undef),(26,undef),(31,undef)] rfl [(15,undef),(16,.bool false)] b rfl ?_ rfl
  refine gK [15,16] (by kernel_rfl) ⟨eH rfl rfl rfl rfl [(21,.bool (decide (a1<a))),(32,undef)] rfl b rfl,pt [(21,.bool (decide (a1<a))),(33,undef)] rfl (fun U J=>yW b J rfl rfl rfl),trivial⟩ ⟨by kernel_rfl,by kernel_rfl⟩ [(0,_),(1,_),(2,_),(3,_),(8,_),(9,_),(34,_)] rfl (fun U J=>?_)
  exact hj1 false G U w (J.sub _ rfl) X
 cases G
 exact wp_exit (O A (R _ rfl) U w (J.sub _ rfl) X)
theorem tE {a0 a1 A0 n0 c0 y} (G:eE a0 a1=some y) (X:SH r (own k47 47 A0 n0 c0 a0::L) w) :
  Ret Tryz.prog 71 #[.slice A0 n0 c0,.int .i64 a1,.func (.func 57) #[] #[]] w fun v w'=>v=.tuple #[]∧SH r (own k47 47 A0 n0 c0 y::L) w':=by
 refine enter Tryz.func71 rfl Tryz.ntmps71 [(0,_),(1,_),(2,_)] rfl (by simp) ?_
 intro U J Qf hQ hQn
 unfold eE at G
 refine nz 1 J rfl fun U J=>nz 3 J rfl fun U J=>wp_seq_k fun d1 A=>aA fun n B=>?_
 have hb1:∀i j,eX a1 i j=some y→∀U w,FR 63 [] U [(0,.slice A0 n0 c0),(1,.int .i64 a1),(2,.func (.func 57) #[] #[]),(6,.int .i64 20),(7,.int .i64 j)]→SH r (own k47 47 A0 n0 c0 i::L) w→n U w:=by
  intro i j G U w J X
  unfold eX at G
  refine B _ _ (A _ _ ?_)
  refine ws fun d2 C=>xk 4 J rfl fun U J=>?_
  obtain⟨d3,D,G⟩:=bnd G
  refine x_c aYx J rfl (iX D X :) fun v U w hR J=>?_
  obtain⟨rfl,X⟩:=hR
  refine wn (C _ _ ?_)
  refine aA fun o E=>?_
  have hb2:∀k,gR k=some y→∀U w,FR 63 [] U [(0,.slice A0 n0 c0),(2,.func (.func 57) #[] #[])]→SH r (own k47 47 A0 n0 c0 k::L) w→o U w:=by
   intro k G U w J X
   unfold gR at G
   cases G
   refine E _ _ (hQn _ _ ?_)
   exact aCy Tryz.results71 J ⟨rfl,X⟩
  obtain⟨F,H,G⟩:=bnd G
  have I:∀b,(b)=F→∀U w,FR 63 [] U [(0,.slice A0 n0 c0),(2,.func (.func 57) #[] #[])]→SH r (own k47 47 A0 n0 c0 b::L) w→o U w:=by
   intro b ht U w J X
   subst ht
   replace G:gE b=some y:=G
   unfold gE at G
   exact hb2 b G U w (J.sub _ rfl) X
  refine aD H (fun s U w=>FR 63 [] U [(0,.slice A0 n0 c0),(1,.int .i64 a1),(2,.func (.func 57) #[] #[]),(6,.int .i64 s.2)]∧SH r (own k47 47 A0 n0 c0 s.1::L) w) ⟨J.sub _ rfl,X⟩ ?_
  intro d4 K g G M N U w hLab
  obtain⟨p,a⟩:=K
  replace G:bV a1 p a=some g:=G
  unfold bV at G
  try dsimp only at hLab
  obtain⟨J,X⟩:=hLab
  refine wp_seq_k fun d5 O=>nz 3 J rfl fun U J=>bA J G rfl (fun P G=>?_) fun P G=>?_
  ·refine wp_skip (O _ _ ?_)
   refine aA fun d6 Q=>nz 4 J rfl fun U J=>wp_seq_k fun d7 R=>aA fun q S=>?_
   have hb3:∀h l,eV a1 a h l=some g→∀U w,FR 63 [] U [(0,.slice A0 n0 c0),(1,.int .i64 a1),(2,.func (.func 57) #[] #[]),(6,.int .i64 a),(7,.int .i64 l)]→SH r (own k47 47 A0 n0 c0 h::L) w→q U w:=by
    intro h l G U w J X
    unfold eV at G
    refine S _ _ (R _ _ ?_)
    refine wp_seq_k fun T W=>?_
    have hj1:∀m,dN a m=some g→∀U w,FR 63 [] U [(0,.slice A0 n0 c0),(1,.int .i64 a1),(2,.func (.func 57) #[] #[]),(6,.int .i64 a)]→SH r (own k47 47 A0 n0 c0 m::L) w→T U w:=by
     intro m G U w J X
     unfold dN at G
     refine W _ _ (aC ?_)
     refine nk 3 J rfl fun U J=>?_
     cases G
     exact Q _ _ ⟨_,M _ rfl,J.sub _ rfl,X⟩
    refine nz 4 J rfl fun U J=>nz 3 J rfl fun U J=>bA J G rfl (fun Y G=>?_) fun Y G=>?_
    ·refine aC (xk 5 J rfl fun U J=>?_)
     obtain⟨Z,a2,G⟩:=bnd G
     refine x_c aTh J rfl (kT a2 X :) fun v U w hR J=>?_
     obtain⟨rfl,X⟩:=hR
     exact wpList_nil (hj1 Z G U w (J.sub _ rfl) X)
    exact wp_skip (hj1 h G U w (J.sub _ rfl) X)
   obtain⟨a3,a4,G⟩:=bnd G
   have a5:∀c d,(c,d)=a3→∀U w,FR 63 [] U [(0,.slice A0 n0 c0),(1,.int .i64 a1),(2,.func (.func 57) #[] #[]),(6,.int .i64 a),(7,.int .i64 d)]→SH r (own k47 47 A0 n0 c0 c::L) w→q U w:=by
    intro c d ht U w J X
    subst ht
    replace G:eQ a1 a c d=some g:=G
    unfold eQ at G
    exact hb3 c d G U w (J.sub _ rfl) X
   refine aD a4 (fun s U w=>FR 63 [] U [(0,.slice A0 n0 c0),(1,.int .i64 a1),(2,.func (.func 57) #[] #[]),(6,.int .i64 a),(7,.int .i64 s.2.1),(8,.int .i64 s.2.2)]∧SH r (own k47 47 A0 n0 c0 s.1::L) w) ⟨J.sub _ rfl,X⟩ ?_
   intro d8 a6 a7 G a8 a9 U w hLab
   obtain⟨t,u,b1⟩:=a6
   replace G:bU a1 a t u b1=some a7:=G
   unfold bU at G
   try dsimp only at hLab
   obtain⟨J,X⟩:=hLab
   refine wp_seq_k fun d9 b2=>nz 3 J rfl fun U J=>bA J G rfl (fun b3 G=>?_) fun b3 G=>?_
   ·refine wp_skip (b2 _ _ ?_)
    refine aA fun e0 b4=>ws fun e1 b5=>xk 7 J rfl fun U J=>?_
    obtain⟨e2,b6,G⟩:=bnd G
    refine x_c aTh J rfl (kT b6 X :) fun v U w hR J=>?_
    obtain⟨rfl,X⟩:=hR
    refine wn (b5 _ _ ?_)
    refine nz 2 J rfl fun U J=>aC (nk 5 J rfl fun U J=>?_)
    cases G
    exact b4 _ _ ⟨_,a8 _ rfl,J.sub _ rfl,X⟩
   cases G
   exact wp_exit (a5 t u (a9 _ rfl) U w (J.sub _ rfl) X)
  cases G
  exact wp_exit (I p (N _ rfl) U w (J.sub _ rfl) X)
 obtain⟨b7,b8,G⟩:=bnd G
 have b9:∀e f,(e,f)=b7→∀U w,FR 63 [] U [(0,.slice A0 n0 c0),(1,.int .i64 a1),(2,.func (.func 57) #[] #[]),(6,.int .i64 20),(7,.int .i64 f)]→SH r (own k47 47 A0 n0 c0 e::L) w→n U w:=by
  intro e f ht U w J X
  subst ht
  replace G:eO a1 e f=some y:=G
  unfold eO at G
  exact hb1 e f G U w (J.sub _ rfl) X
 refine aD b8 (fun s U w=>FR 63 [] U [(0,.slice A0 n0 c0),(1,.int .i64 a1),(2,.func (.func 57) #[] #[]),(6,.int .i64 20),(7,.int .i64 s.2.1),(8,.int .i64 s.2.2)]∧SH r (own k47 47 A0 n0 c0 s.1::L) w) ⟨J.sub _ rfl,X⟩ ?_
 intro e3 c1 c2 G c3 c4 U w hLab
 obtain⟨x,z,c5⟩:=c1
 replace G:bW a1 x z c5=some c2:=G
 unfold bW at G
 try dsimp only at hLab
 obtain⟨J,X⟩:=hLab
 refine wp_seq_k fun e4 c6=>nz 3 J rfl fun U J=>bA J G rfl (fun c7 G=>?_) fun c7 G=>?_
 ·refine wp_skip (c6 _ _ ?_)
  refine aA fun e5 c8=>ws fun e6 c9=>xk 4 J rfl fun U J=>?_
  obtain⟨e7,d0,G⟩:=bnd G
  refine x_c aYx J rfl (iX d0 X :) fun v U w hR J=>?_
  obtain⟨rfl,X⟩:=hR
  refine wn (c9 _ _ ?_)
  refine nz 2 J rfl fun U J=>aC (nk 4 J rfl fun U J=>?_)
  cases G
  exact c8 _ _ ⟨_,c3 _ rfl,J.sub _ rfl,X⟩
 cases G
 exact wp_exit (b9 x z (c4 _ rfl) U w (J.sub _ rfl) X)
theorem nH {a0 A0 n0 c0 y} (G:dB a0=some y) (X:SH r (own k47 47 A0 n0 c0 a0::L) w) :
  Ret Tryz.prog 56 #[.slice A0 n0 c0,.func (.func 57) #[] #[]] w fun v w'=>v=.tuple #[]∧SH r (own k47 47 A0 n0 c0 y::L) w':=by
 refine enter Tryz.func56 rfl Tryz.ntmps56 [(0,_),(1,_)] rfl (by simp) ?_
 intro U J Qf hQ hQn
 unfold dB at G
 refine aC (xk 2 J rfl fun U J=>?_)
 refine aU eG (X.rd 0 rfl).2.1 J (fun U J=>?_) rfl
 refine x_m J rfl fun U J=>?_
 obtain⟨b,a,G⟩:=bnd G
 refine x_c bBu J rfl (tE a X :) fun v U w hR J=>?_
 obtain⟨rfl,X⟩:=hR
 refine wpList_nil ?_
 cases G
 refine hQn _ _ (aCy Tryz.results56 J ?_)
 exact⟨rfl,X⟩
theorem aIk {a0 A0 n0 c0 y} (G:wY a0=some y) (X:SH r (L) w) (ha0:RdL L k47 A0 n0 c0 a0) :
  Ret Tryz.prog 42 #[.slice A0 n0 c0] w fun v w'=>∃ (B0:Option Addr) (m0:Nat) (d0:Nat),v=.slice B0 m0 d0∧SH r (own k47 47 B0 m0 d0 y::L) w':=by
 refine enter Tryz.func42 rfl Tryz.ntmps42 [(0,_)] rfl (by simp) ?_
 intro U J Qf hQ hQn
 unfold wY at G
 refine nz 1 J rfl fun U J=>ws fun h a=>xk 1 J rfl fun U J=>?_
 obtain⟨i,b,G⟩:=bnd G
 refine x_c bBn J rfl (rJ b X (RdL.sfx 0 rfl ha0) :) fun v U w hR J=>?_
 obtain⟨c,d,e,rfl,X⟩:=hR
 refine x_m J rfl fun U J=>wn (a _ _ ?_)
 refine ws fun j f=>xk 1 J rfl fun U J=>?_
 obtain⟨k,g,G⟩:=bnd G
 refine x_c bCv J rfl (nH g X :) fun v U w hR J=>?_
 obtain⟨rfl,X⟩:=hR
 refine wn (f _ _ ?_)
 refine nz 2 J rfl fun U J=>?_
 cases G
 refine wp_ret (hQ _ _ ?_)
 exact lv Tryz.results42 J rfl ⟨c,d,e,rfl,X⟩
end
noncomputable section
set_option linter.unusedSimpArgs false
def wS (a0:S47) (a1:S47):Option (Bool) :=
  if (!(a0.f3==a1.f3))=true then (some (Op.bytesLess a0.f3 a1.f3)) else (if (a0.f2 != a1.f2)=true then (some (decide (a0.f2<a1.f2))) else (some (decide (a0.f0<a1.f0))))
def zR (a:(List S47)):Option ((List S47)) :=
  some a
def xN (a:(List S47)):Option ((List S47)) :=
  zR a
def xH (a0:(List S47)) (b:(List S47)) (d:Int) (e:Int):Option (((List S47)×Int)⊕(((List S47)))) :=
  (oP b 0 e).bind fun a=>(chk (([]:List S47).length+a.length≤140737488355328 / 48) ((at_ a0 d).bind fun c=>(chk (a.length+[c].length≤140737488355328 / 48) ((oP b e (b.length:Int)).bind fun f=>(chk ((a++[c]).length+f.length≤140737488355328 / 48) (some (.inl ((a++[c])++f,IntKind.i64.wrap (d+1)))))))))
def uG (a0:(List S47)) (a:(List S47)) (b:Int) (c:Int):Option (((List S47)×Int)⊕(((List S47)))) :=
  xH a0 a b c
def rP (a:Int) (b:Bool):Option ((Int)⊕((Int))) :=
  if b=true then (some (.inl (IntKind.i64.wrap (a - 1)))) else (some (.inr (a)))
def uS (a0:(List S47)) (b:(List S47)) (c:Int) (a:Int):Option ((Int)⊕((Int))) :=
  if (decide (0<a))=true then ((at_ a0 c).bind fun d=>((at_ b (IntKind.i64.wrap (a - 1))).bind fun e=>((wS d e).bind fun f=>(rP a f)))) else (rP a false)
def nK (a0:(List S47)) (a:(List S47)) (b:Int):Option (((List S47)×Int)⊕(((List S47)))) :=
  if (decide (b<(a0.length:Int)))=true then ((loop (fun s=>uS a0 a b s) ((a.length:Int))).bind fun t=>uG a0 a b t) else (some (.inr (a)))
def zT (a0:(List S47)):Option ((List S47)) :=
  (loop (fun s=>nK a0 s.1 s.2) ([],0)).bind fun t=>xN t
end
section
variable {r:World} {L:List HP} {w:World} {Z:Nat→Prop} {wz:World}
theorem aIn {a0 a1 y} (G:wS a0 a1=some y) (X:SH r (L) w) :
  Ret Tryz.prog 31 #[.agg #[.int .u64 a0.f0,.int .i64 a0.f1,.int .i64 a0.f2,str a0.f3,.float .f64 a0.f4],.agg #[.int .u64 a1.f0,.int .i64 a1.f1,.int .i64 a1.f2,str a1.f3,.float .f64 a1.f4]] w fun v w'=>v=.bool y∧SH r (L) w':=by
 refine enter Tryz.func31 rfl Tryz.ntmps31 [(0,_),(1,_)] rfl (by simp) ?_
 intro U J Qf hQ hQn
 unfold wS at G
 refine ws fun k a=>mY J X (fun l U w X J=>?_) rfl
 refine mY J X (fun m U w X J=>?_) rfl
 refine x_m J rfl fun U J=>wn (a _ _ ?_)
 refine wp_seq_k fun n b=>ws fun o c=>aL sL J (fun U J=>?_) rfl
 refine aH uu9 (X.cell 1 rfl 3 _ rfl) J (fun U J=>?_) rfl
 refine aL sL J (fun U J=>?_) rfl
 refine aH uu9 (X.cell 0 rfl 3 _ rfl) J (fun U J=>?_) rfl
 refine x_v J (aLe rfl (J.ev rfl) (J.ev rfl)) rfl fun U J=>wn (c _ _ ?_)
 refine bA J G rfl (fun d G=>?_) fun d G=>?_
 ·refine ws fun p e=>aL sL J (fun U J=>?_) rfl
  refine aH uu9 (X.cell 1 rfl 3 _ rfl) J (fun U J=>?_) rfl
  refine aL sL J (fun U J=>?_) rfl
  refine aH uu9 (X.cell 0 rfl 3 _ rfl) J (fun U J=>?_) rfl
  refine x_v J (aHp rfl (J.ev rfl) (J.ev rfl)) rfl fun U J=>x_m J rfl fun U J=>wn (e _ _ ?_)
  replace X:=X.drop 0 |>.drop 0
  cases G
  refine wp_ret (hQ _ _ ?_)
  exact lv Tryz.results31 J rfl ⟨rfl,X⟩
 refine wp_skip (b _ _ ?_)
 refine wp_seq_k fun q f=>ws fun s g=>aL iR J (fun U J=>?_) rfl
 refine aH uu2 (X.cell 1 rfl 2 _ rfl) J (fun U J=>?_) rfl
 refine aL iR J (fun U J=>?_) rfl
 refine aH uu2 (X.cell 0 rfl 2 _ rfl) J (fun U J=>?_) rfl
 refine nk 1 J rfl fun U J=>g _ _ (bA J G rfl (fun h G=>?_) fun h G=>?_)
 ·refine ws fun t i=>aL iR J (fun U J=>?_) rfl
  refine aH uu2 (X.cell 1 rfl 2 _ rfl) J (fun U J=>?_) rfl
  refine aL iR J (fun U J=>?_) rfl
  refine aH uu2 (X.cell 0 rfl 2 _ rfl) J (fun U J=>?_) rfl
  refine nk 2 J rfl fun U J=>?_
  replace X:=X.drop 0 |>.drop 0
  cases G
  refine i _ _ (wp_ret ?_)
  refine hQ _ _ (lv Tryz.results31 J rfl ?_)
  exact⟨rfl,X⟩
 refine wp_skip (f _ _ ?_)
 refine ws fun u j=>aL uD J (fun U J=>?_) rfl
 refine aH mE (X.cell 1 rfl 0 _ rfl) J (fun U J=>?_) rfl
 refine aL uD J (fun U J=>?_) rfl
 refine aH mE (X.cell 0 rfl 0 _ rfl) J (fun U J=>?_) rfl
 refine nk 2 J rfl fun U J=>?_
 replace X:=X.drop 0 |>.drop 0
 cases G
 refine j _ _ (wp_ret ?_)
 refine hQ _ _ (lv Tryz.results31 J rfl ?_)
 exact⟨rfl,X⟩
theorem aL4 {a0 A0 n0 c0 y} (G:zT a0=some y) (X:SH r (L) w) (ha0:RdL L k47 A0 n0 c0 a0) :
  Ret Tryz.prog 15 #[.slice A0 n0 c0] w fun v w'=>∃ (B0:Option Addr) (m0:Nat) (d0:Nat),v=.slice B0 m0 d0∧SH r (own k47 47 B0 m0 d0 y::L) w':=by
 refine enter Tryz.func15 rfl Tryz.ntmps15 [(0,_)] rfl (by simp) ?_
 intro U J Qf hQ hQn
 unfold zT at G
 refine nz 1 J rfl fun U J=>nz 1 J rfl fun U J=>wp_seq_k fun e0 W=>nz 1 J rfl fun U J=>aA fun O Y=>?_
 have hb1:∀D,zR D=some y→∀t x z U w,FR 49 [] U [(3,.slice t x z)]→SH r (own k47 47 t x z D::L) w→O U w:=by
  intro D G t x z U w J X
  unfold zR at G
  refine Y _ _ (W _ _ ?_)
  refine nz 2 J rfl fun U J=>?_
  cases G
  refine wp_ret (hQ _ _ ?_)
  exact lv Tryz.results15 J rfl ⟨t,x,z,rfl,X⟩
 obtain⟨Z,a1,G⟩:=bnd G
 have a2:∀o,(o)=Z→∀A B C U w,FR 49 [] U [(3,.slice A B C)]→SH r (own k47 47 A B C o::L) w→O U w:=by
  intro o ht A B C U w J X
  subst ht
  replace G:xN o=some y:=G
  unfold xN at G
  exact hb1 o G A B C U w (J.sub _ rfl) X
 replace X:=SH.nil_own (d:=k47) (e:=47) X
 refine aD a1 (fun s U w=>∃f g i,FR 49 [] U [(0,.slice A0 n0 c0),(3,.slice f g i),(4,.int .i64 s.2)]∧SH r (own k47 47 f g i s.1::L) w) ⟨none,0,0,J.sub _ rfl,X⟩ ?_
 intro e1 a3 E G a4 a5 U w hLab
 obtain⟨n,m⟩:=a3
 replace G:nK a0 n m=some E:=G
 unfold nK at G
 try dsimp only at hLab
 obtain⟨f,g,i,J,X⟩:=hLab
 refine wp_seq_k fun e2 a6=>ws fun e3 a7=>xk 2 J rfl fun U J=>aU eG (X.rdl 1 ha0 rfl).2.1 J (fun U J=>?_) rfl
 refine nk 1 J rfl fun U J=>a7 _ _ (bA J G rfl (fun a8 G=>?_) fun a8 G=>?_)
 ·refine wp_skip (a6 _ _ ?_)
  refine wp_seq_k fun e4 a9=>aA fun e5 b1=>ws fun e6 b2=>xk 1 J rfl fun U J=>aU eG (X.rd 0 rfl).2.1 J (fun U J=>?_) rfl
  refine x_m J rfl fun U J=>wn (b2 _ _ ?_)
  refine wp_seq_k fun e7 b3=>aA fun P b4=>?_
  have hb2:∀F,xH a0 n m F=some E→∀U w,FR 49 [] U [(0,.slice A0 n0 c0),(3,.slice f g i),(4,.int .i64 m),(5,.int .i64 F)]→SH r (own k47 47 f g i n::L) w→P U w:=by
   intro F G U w J X
   unfold xH at G
   refine b4 _ _ (b3 _ _ ?_)
   refine nz 1 J rfl fun U J=>ws fun e8 b5=>xk 3 J rfl fun U J=>?_
   obtain⟨e9,H,G⟩:=bnd G
   refine x_v J (wD eG cH rfl (J.ev rfl) (J.ev rfl) (tG (X.rd 0 rfl) H).2.2.2.2.1 (tG (X.rd 0 rfl) H).2.2.1) rfl fun U J=>?_
   replace X:=SH.nil_own (d:=k47) (e:=47) X
   obtain⟨b6,G⟩:=aB G
   have hr:=aWa (X.rd 1 rfl) H
   refine gH 0 aB5 eG J X hr.1 hr.2.1 b6 rfl (fun f5 f6 f7 U w X J=>?_) rfl
   rw [List.nil_append] at X
   refine x_m J rfl fun U J=>wn (b5 _ _ ?_)
   refine ws fun f8 b7=>xk 3 J rfl fun U J=>?_
   obtain⟨c,Q,G⟩:=bnd G
   refine fG eG cH (X.rdl 2 ha0 rfl) Q J (fun U J=>?_) rfl
   obtain⟨cs,hV,b8⟩:=el (X.rdl 2 ha0 rfl) Q
   obtain rfl:=hV
   refine lH (cs:=[.int .u64 c.f0,.int .i64 c.f1,.int .i64 c.f2,str c.f3,.float .f64 c.f4]) lL cH (fun j u h=>by rw [eU]; exact b8 _ _ h) J (fun U J=>?_) rfl
   refine iM (d:=k47) (e:=47) (ps:=#[(0,.agg #[.int .u64 c.f0,.int .i64 c.f1,.int .i64 c.f2,str c.f3,.float .f64 c.f4])]) (cells:=[.int .u64 c.f0,.int .i64 c.f1,.int .i64 c.f2,str c.f3,.float .f64 c.f4]) (xs:=[c]) (fun w=>by kernel_rfl) rfl ⟨[.int .u64 c.f0,.int .i64 c.f1,.int .i64 c.f2,str c.f3,.float .f64 c.f4],_,rfl,rfl,rfl⟩ J X (fun f9 U w X J=>?_) rfl
   obtain⟨b9,G⟩:=aB G
   have hr:=X.rd 0 rfl
   refine gH 1 aB5 eG J X hr.1 hr.2.1 b9 rfl (fun g0 g1 g2 U w X J=>?_) rfl
   refine x_m J rfl fun U J=>wn (b7 _ _ ?_)
   refine aC (xk 3 J rfl fun U J=>?_)
   obtain⟨g3,I,G⟩:=bnd G
   refine x_v J (kK eG cH rfl (J.ev rfl) (J.ev rfl) (tG (X.rd 2 rfl) I).1 (tG (X.rd 2 rfl) I).2.2.2.2.2) rfl fun U J=>?_
   obtain⟨c1,G⟩:=aB G
   have hr:=aXr (X.rd 2 rfl) I
   refine gH 0 aB5 eG J X hr.1 hr.2.1 c1 rfl (fun c2 c3 c4 U w X J=>?_) rfl
   refine x_m J rfl fun U J=>wpList_nil (b1 _ _ ?_)
   refine a9 _ _ (aC ?_)
   refine nk 3 J rfl fun U J=>?_
   replace X:=X.drop 1 |>.drop 1
   cases G
   exact⟨_,a4 _ rfl,c2,c3,c4,J.sub _ rfl,X⟩
  obtain⟨c5,c6,G⟩:=bnd G
  have c7:∀p,(p)=c5→∀U w,FR 49 [] U [(0,.slice A0 n0 c0),(3,.slice f g i),(4,.int .i64 m),(5,.int .i64 p)]→SH r (own k47 47 f g i n::L) w→P U w:=by
   intro p ht U w J X
   subst ht
   replace G:uG a0 n m p=some E:=G
   unfold uG at G
   exact hb2 p G U w (J.sub _ rfl) X
  refine aD c6 (fun s U w=>FR 49 [] U [(0,.slice A0 n0 c0),(3,.slice f g i),(4,.int .i64 m),(5,.int .i64 s)]∧SH r (own k47 47 f g i n::L) w) ⟨J.sub _ rfl,X⟩ ?_
  intro g4 c8 R G c9 d1 U w hLab
  obtain⟨a,rfl⟩:∃ q,q=c8:=⟨_,rfl⟩
  replace G:uS a0 n m a=some R:=G
  unfold uS at G
  try dsimp only at hLab
  obtain⟨J,X⟩:=hLab
  refine wp_seq_k fun g5 d2=>wp_seq_k fun d3 d4=>?_
  have hj1:∀M,rP a M=some R→∀U w,FR 49 [] U [(0,.slice A0 n0 c0),(3,.slice f g i),(4,.int .i64 m),(5,.int .i64 a),(28,.bool M)]→SH r (own k47 47 f g i n::L) w→d3 U w:=by
   intro M G U w J X
   unfold rP at G
   refine d4 _ _ (bA J G rfl (fun d5 G=>?_) fun d5 G=>?_)
   ·refine wp_skip (d2 _ _ ?_)
    refine aA fun g6 d6=>aC (nk 3 J rfl fun U J=>?_)
    cases G
    exact d6 _ _ ⟨_,c9 _ rfl,J.sub _ rfl,X⟩
   cases G
   exact wp_exit (c7 a (d1 _ rfl) U w (J.sub _ rfl) X)
  refine cP [0,1,3,7,7,31,63,7,7,263,903,1927,4095,8191] [12] rfl J X (by kernel_rfl) (by kernel_rfl) (by kernel_rfl) (by kernel_rfl) fun w X=>bcG G (fun b G=>?_) fun b G=>?_
  ·obtain⟨k,S,G⟩:=bnd G
   obtain⟨cs,hV,d7⟩:=el (X.rdl 1 ha0 rfl) S
   obtain rfl:=hV
   obtain⟨l,T,G⟩:=bnd G
   obtain⟨cs,hV,d8⟩:=el (X.rd 0 rfl) T
   obtain rfl:=hV
   refine⟨[(0,.int .i64 a),(1,.bool (decide (0<a))),(2,.bool (decide (0<a))),(3,.slice A0 n0 c0),(4,.int .i64 m),(5,.pointer (some (ea A0 (m.toNat * 5)))),(6,.agg #[.int .u64 k.f0,.int .i64 k.f1,.int .i64 k.f2,str k.f3,.float .f64 k.f4]),(7,.slice f g i),(8,.int .i64 a),(9,.int .i64 (IntKind.i64.wrap (a - 1))),(10,.pointer (some (ea f ((IntKind.i64.wrap (a - 1)).toNat * 5)))),(11,.agg #[.int .u64 l.f0,.int .i64 l.f1,.int .i64 l.f2,str l.f3,.float .f64 l.f4])],?_⟩
   refine dF [0,1,2,3,4,5,6,7,8,9,10,11] [12] (by kernel_rfl) ⟨pm rfl,pt [(15,_)] rfl (fun U J=>aBi rfl (J.ev rfl) (J.ev rfl)),pm rfl,iB rfl rfl rfl rfl [(0,.slice A0 n0 c0),(17,.bool (decide (0<a)))] rfl b (fun U J=>mK J rfl rfl) rfl,iB rfl rfl rfl rfl [(4,.int .i64 m),(17,.bool (decide (0<a)))] rfl b (fun U J=>mK J rfl rfl) rfl,iB rfl rfl rfl rfl [(17,.bool (decide (0<a))),(18,.slice A0 n0 c0),(19,.int .i64 m)] rfl b (fun U J=>fH eG cH (X.rdl 1 ha0 rfl) S J rfl rfl rfl) rfl,iB rfl rfl rfl rfl [(17,.bool (decide (0<a))),(20,.pointer (some (ea A0 (m.toNat * 5))))] rfl b (fun U J=>nL (cs:=[.int .u64 k.f0,.int .i64 k.f1,.int .i64 k.f2,str k.f3,.float .f64 k.f4]) lL cH (fun j u h=>by rw [eU]; exact d7 _ _ h) J rfl rfl rfl) rfl,iB rfl rfl rfl rfl [(3,.slice f g i),(17,.bool (decide (0<a)))] rfl b (fun U J=>mK J rfl rfl) rfl,iB rfl rfl rfl rfl [(5,.int .i64 a),(17,.bool (decide (0<a)))] rfl b (fun U J=>mK J rfl rfl) rfl,iB rfl rfl rfl rfl [(17,.bool (decide (0<a))),(23,.int .i64 a)] rfl b (fun U J=>oZ rfl (J.ev rfl) (J.ev rfl)) rfl,iB rfl rfl rfl rfl [(17,.bool (decide (0<a))),(22,.slice f g i),(24,.int .i64 (IntKind.i64.wrap (a - 1)))] rfl b (fun U J=>fH eG cH (X.rd 0 rfl) T J rfl rfl rfl) rfl,iB rfl rfl rfl rfl [(17,.bool (decide (0<a))),(25,.pointer (some (ea f ((IntKind.i64.wrap (a - 1)).toNat * 5))))] rfl b (fun U J=>nL (cs:=[.int .u64 l.f0,.int .i64 l.f1,.int .i64 l.f2,str l.f3,.float .f64 l.f4]) lL cH (fun j u h=>by rw [eU]; exact d8 _ _ h) J rfl rfl rfl) rfl,trivial⟩ ⟨aYs rfl rfl rfl [(17,.bool (decide (0<a))),(21,.agg #[.int .u64 k.f0,.int .i64 k.f1,.int .i64 k.f2,str k.f3,.float .f64 k.f4]),(26,.agg #[.int .u64 l.f0,.int .i64 l.f1,.int .i64 l.f2,str l.f3,.float .f64 l.f4])] rfl b (fun U J K hK=>?_) rfl,trivial⟩
   obtain⟨N,d9,G⟩:=bnd G
   refine nQ bCi J (aIn d9 X :) (fun v w hR=>?_) rfl
   obtain⟨rfl,X⟩:=hR
   refine hK _ [(13,.bool N)] _ rfl (gK [13] (by kernel_rfl) ⟨pt [(17,.bool (decide (0<a))),(27,.bool N)] rfl (fun U J=>aAr b J rfl rfl rfl),trivial⟩ ⟨by kernel_rfl,by kernel_rfl⟩ [(0,_),(3,_),(4,_),(5,_),(18,_),(19,_),(21,_),(22,_),(23,_),(24,_),(26,_),(27,_),(28,_)] rfl (fun U J=>?_))
   exact hj1 N G U w (J.sub _ rfl) X
  refine⟨[(0,.int .i64 a),(1,.bool (decide (0<a))),(2,.bool (decide (0<a))),(3,undef),(4,undef),(5,undef),(6,undef),(7,undef),(8,undef),(9,undef),(10,undef),(11,undef)],?_⟩
  refine dF [0,1,2,3,4,5,6,7,8,9,10,11] [12] (by kernel_rfl) ⟨pm rfl,pt [(15,_)] rfl (fun U J=>aBi rfl (J.ev rfl) (J.ev rfl)),pm rfl,eH rfl rfl rfl rfl [(0,.slice A0 n0 c0),(17,.bool (decide (0<a)))] rfl b rfl,eH rfl rfl rfl rfl [(4,.int .i64 m),(17,.bool (decide (0<a)))] rfl b rfl,eH rfl rfl rfl rfl [(17,.bool (decide (0<a))),(18,undef),(19,undef)] rfl b rfl,eH rfl rfl rfl rfl [(17,.bool (decide (0<a))),(20,undef)] rfl b rfl,eH rfl rfl rfl rfl [(3,.slice f g i),(17,.bool (decide (0<a)))] rfl b rfl,eH rfl rfl rfl rfl [(5,.int .i64 a),(17,.bool (decide (0<a)))] rfl b rfl,eH rfl rfl rfl rfl [(17,.bool (decide (0<a))),(23,undef)] rfl b rfl,eH rfl rfl rfl rfl [(17,.bool (decide (0<a))),(22,undef),(24,undef)] rfl b rfl,eH rfl rfl rfl rfl [(17,.bool (decide (0<a))),(25,undef)] rfl b rfl,trivial⟩ ⟨?_,trivial⟩
  refine aVu rfl rfl rfl [(17,.bool (decide (0<a))),(21,undef),(26,undef)] rfl [(13,.bool false)] b rfl ?_ rfl
  refine gK [13] (by kernel_rfl) ⟨pt [(17,.bool (decide (0<a))),(27,undef)] rfl (fun U J=>yW b J rfl rfl rfl),trivial⟩ ⟨by kernel_rfl,by kernel_rfl⟩ [(0,_),(3,_),(4,_),(5,_),(28,_)] rfl (fun U J=>?_)
  exact hj1 false G U w (J.sub _ rfl) X
 cases G
 exact wp_exit (a2 n (a5 _ rfl) f g i U w (J.sub _ rfl) X)
end
noncomputable section
set_option linter.unusedSimpArgs false
def jP (a0:S151) (a1:Int) (a2:Int) (a:(List S47)) (b:(List S47)) (e:Bool):Option (Bool×S151) :=
  if e=true then (if (decide (0<(a.length:Int)))=true then (some (true,a0)) else (if ((b.length:Int)==0)=true then (some (decide (a1<a2),a0)) else (some (false,a0)))) else ((at_ a 0).bind fun c=>((at_ b 0).bind fun d=>((nS c d).bind fun f=>(if f=true then (some (true,a0)) else ((nS d c).bind fun g=>(if g=true then (some (false,a0)) else (some (decide (a1<a2),a0))))))))
def kJ (a0:S151) (a1:Int) (a2:Int):Option (Bool×S151) :=
  (at_ a0.f0 a1).bind fun a=>((at_ a0.f0 a2).bind fun b=>(if ((a.length:Int)==0)=true then (jP a0 a1 a2 a b true) else (jP a0 a1 a2 a b ((b.length:Int)==0))))
def vR (a0:(List (List S47))) (b:(List (List S47))) (a:(List Int)) (c:(List Int)):Option ((Option S151)×Int) :=
  (at_ c (if IntKind.i64.wrap ((IntKind.i64.wrap (2 * (a0.length:Int))) - 1)<1 then IntKind.i64.wrap ((IntKind.i64.wrap (2 * (a0.length:Int))) - 1) else 1)).bind fun d=>((at_ a 0).bind fun e=>(some (some (⟨b,a.set (0:Int).toNat d⟩:S151),0)))
def sO (a0:(List (List S47))) (a:(List (List S47))) (b:(List Int)) (c:(List Int)):Option ((Option S151)×Int) :=
  vR a0 a b c
def tI (b:(List Int)) (a:Int) (d:(List (List S47))) (c:(List Int)) (e:Int) (f:Int):Option (((List (List S47))×(List Int)×(List Int)×Int)⊕(((List (List S47))×(List Int)×(List Int)))) :=
  (at_ b a).bind fun g=>((at_ c a).bind fun h=>(some (.inl (d,c.set a.toNat f,b.set a.toNat e,IntKind.i64.wrap (a - 1)))))
def lY (f:(List (List S47))) (g:(List Int)) (a:(List Int)) (b:Int):Option (((List (List S47))×(List Int)×(List Int)×Int)⊕(((List (List S47))×(List Int)×(List Int)))) :=
  if (decide (0<b))=true then ((at_ a (IntKind.i64.wrap (2 * b))).bind fun d=>((at_ a (IntKind.i64.wrap ((IntKind.i64.wrap (2 * b))+1))).bind fun e=>((kJ (⟨f,g⟩:S151) e d).bind fun c=>(if c.1=true then (tI a b c.2.f0 c.2.f1 e d) else (tI a b c.2.f0 c.2.f1 d e))))) else (some (.inr (f,g,a)))
def vU (a0:(List (List S47))) (a:(List (List S47))) (b:(List Int)):Option ((Option S151)×Int) :=
  (loop (fun s=>lY s.1 s.2.1 s.2.2.1 s.2.2.2) (a,List.replicate (a0.length:Int).toNat (0:Int),b,IntKind.i64.wrap ((a0.length:Int) - 1))).bind fun t=>sO a0 t.1 t.2.1 t.2.2
def sG (a0:(List (List S47))) (a:(List (List S47))) (b:(List Int)):Option ((Option S151)×Int) :=
  vU a0 a b
def lU (a0:(List (List S47))) (b:(List Int)) (a:Int):Option (((List Int)×Int)⊕(((List Int)))) :=
  if (decide (a<(a0.length:Int)))=true then ((at_ b (IntKind.i64.wrap ((a0.length:Int)+a))).bind fun c=>(some (.inl (b.set (IntKind.i64.wrap ((a0.length:Int)+a)).toNat a,IntKind.i64.wrap (a+1))))) else (some (.inr (b)))
def vF (a0:(List (List S47))) (a:(List (List S47))):Option ((Option S151)×Int) :=
  chk (0≤(a0.length:Int)∧(8:Int) * (a0.length:Int)≤140737488355328) (chk (0≤(IntKind.i64.wrap (2 * (a0.length:Int)))∧(8:Int) * (IntKind.i64.wrap (2 * (a0.length:Int)))≤140737488355328) ((loop (fun s=>lU a0 s.1 s.2) (List.replicate (IntKind.i64.wrap (2 * (a0.length:Int))).toNat (0:Int),0)).bind fun t=>sG a0 a t))
def tJ (a0:(List (List S47))) (a:(List (List S47))):Option ((Option S151)×Int) :=
  vF a0 a
def vN (a:(List (List S47))) (c:Int) (b:(List S47)):Option (((List (List S47))×Int)⊕(((List (List S47)))⊕((Option S151)×Int))) :=
  chk (a.length+[b].length≤140737488355328 / 24) (some (.inl (a++[b],IntKind.i64.wrap (c+1))))
def sZ (a:(List (List S47))) (b:Int) (c:(List S47)):Option (((List (List S47))×Int)⊕(((List (List S47)))⊕((Option S151)×Int))) :=
  vN a b c
def qF (b:(List S47)) (a:Int):Option ((Int)⊕((Unit)⊕((Option S151)×Int))) :=
  if (decide (a<(b.length:Int)))=true then ((at_ b a).bind fun c=>((at_ b (IntKind.i64.wrap (a - 1))).bind fun d=>((nS c d).bind fun e=>(if e=true then (some (.inr (.inr (none,7)))) else (some (.inl (IntKind.i64.wrap (a+1)))))))) else (some (.inr (.inl ())))
def mA (a0:(List (List S47))) (b:(List (List S47))) (a:Int):Option (((List (List S47))×Int)⊕(((List (List S47)))⊕((Option S151)×Int))) :=
  if (decide (a<(a0.length:Int)))=true then ((at_ a0 a).bind fun c=>((loop (fun s=>qF c s) (1)).bind fun t=>match t with | (.inl t)=>sZ b a c | (.inr t)=>some (.inr (.inr t)))) else (some (.inr (.inl (b))))
def tD (a0:(List (List S47))) (a:Bool):Option ((Option S151)×Int) :=
  if a=true then (some (none,1)) else ((loop (fun s=>mA a0 s.1 s.2) ([],0)).bind fun t=>match t with | (.inl t)=>tJ a0 t | (.inr t)=>some t)
def tT (a0:(List (List S47))):Option ((Option S151)×Int) :=
  if (decide ((a0.length:Int)<1))=true then (tD a0 true) else (tD a0 (decide (16<(a0.length:Int))))
def nU (b:Int) (c:S47) (d:(List (List S47))) (a:(List Int)) (e:Int):Option (S47×Int×Bool×(Option S151)) :=
  (at_ a 0).bind fun f=>(some (c,b,true,some (⟨d,a.set (0:Int).toNat e⟩:S151)))
def mC (a:Int) (b:S47) (c:(List (List S47))) (d:(List Int)) (e:Int):Option (S47×Int×Bool×(Option S151)) :=
  nU a b c d e
def kU (a:Int) (b:(List (List S47))) (c:(List Int)) (d:Int):Option (((List (List S47))×(List Int)×Int×Int)⊕(((List (List S47))×(List Int)×Int))) :=
  some (.inl (b,c,d,IntKind.i64.wrap (a.tdiv 2)))
def iS (e:(List (List S47))) (d:(List Int)) (c:Int) (a:Int):Option (((List (List S47))×(List Int)×Int×Int)⊕(((List (List S47))×(List Int)×Int))) :=
  if (decide (0<a))=true then ((at_ d a).bind fun f=>((kJ (⟨e,d⟩:S151) f c).bind fun b=>(if b.1=true then ((at_ b.2.f1 a).bind fun g=>(kU a b.2.f0 (b.2.f1.set a.toNat c) g)) else (kU a b.2.f0 b.2.f1 c)))) else (some (.inr (e,d,c)))
def iK (a0:(Option S151)):Option (S47×Int×Bool×(Option S151)) :=
  match a0 with | none=>(some ((⟨0,0,0,[],0⟩:S47),0,false,none)) | some a=>((at_ a.f1 0).bind fun b=>((at_ a.f0 b).bind fun c=>(if ((c.length:Int)==0)=true then (some ((⟨0,0,0,[],0⟩:S47),0,false,some a)) else ((at_ c 0).bind fun e=>((oP c 1 (c.length:Int)).bind fun d=>((loop (fun s=>iS s.1 s.2.1 s.2.2.1 s.2.2.2) (a.f0.set b.toNat d,a.f1,b,IntKind.i64.wrap ((IntKind.i64.wrap (b+((a.f0.set b.toNat d).length:Int))).tdiv 2))).bind fun t=>mC b e t.1 t.2.1 t.2.2))))))
def vG (a:(List S47)):Option ((List S47)×Int) :=
  some (a,0)
def tH (a:(List S47)):Option ((List S47)×Int) :=
  vG a
def sA (h:(Option S151)) (b:(List S47)) (c:Int) (d:Int) (e:Int) (f:(List UInt8)) (g:Nat) (i:Bool):Option (((Option S151)×(List S47)×Int×Int×Int×(List UInt8)×Nat×Bool)⊕(((List S47)))) :=
  if i=true then (chk (b.length+[(⟨c,d,e,f,g⟩:S47)].length≤140737488355328 / 48) ((iK h).bind fun a=>(some (.inl (a.2.2.2,b++[(⟨c,d,e,f,g⟩:S47)],a.1.f0,a.1.f1,a.1.f2,a.1.f3,a.1.f4,a.2.2.1))))) else (some (.inr (b)))
def rV (a0:(List (List S47))):Option ((List S47)×Int) :=
  (tT a0).bind fun b=>(if (b.2 != 0)=true then (some ([],b.2)) else ((iK b.1).bind fun a=>((loop (fun s=>sA s.1 s.2.1 s.2.2.1 s.2.2.2.1 s.2.2.2.2.1 s.2.2.2.2.2.1 s.2.2.2.2.2.2.1 s.2.2.2.2.2.2.2) (a.2.2.2,[],a.1.f0,a.1.f1,a.1.f2,a.1.f3,a.1.f4,a.2.2.1)).bind fun t=>tH t)))
end
end Go.Proofs.YtnefioccdkmegaaGreatDoor.M
