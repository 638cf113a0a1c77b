/- Texts of the claim, joined: what it uses of Mfe, Vg, Dca. -/
import Derived.Test.YtdkpjpoajlmmfaaGreatDoorZh
namespace Go.Proofs.YtdkpjpoajlmmfaaGreatDoor.M
open Go Go.RowKit Go.Proofs.YtdkpjpoajlmmfaaGreatDoor.E
set_option linter.unusedVariables false
set_option maxRecDepth 100000
set_option maxHeartbeats 4000000
set_option linter.unusedSimpArgs false
section
variable {r:World} {L:List HP} {w:World} {Z:Nat->Prop} {wz:World}
theorem aD1 {a1 b e c y} (G:nO a1 b=some y) (X:SH r (blk e 29 [pP c]::obj77 c b::L) w) :
  Ret Tryz.prog 78 #[pP c,str a1,.func (.func 107) #[] #[pP e]] w λv w'=>v=bGj y.1/\SH r (blk e 29 [pP c]::obj77 c y.2::L) w':=by
 refine enter Tryz.func78 rfl Tryz.ntmps78 [(0,_),(1,_),(2,_)] rfl (by simp) ?_;intro U J Qf d a2;unfold nO at G;obtain⟨A,B,C,X⟩:=aH (X.pk 1);refine nz 1 J rfl λU J=>wp_seq_k λD g=>ws λE h=>xk 2 J rfl λU J=>?_;replace X:=SH.optS (aE (x:=b) (X.bGo [1,1]));obtain⟨F,i,G⟩:=bnd G;refine x_c aLj J rfl (fB i X :) λv U w a J=>?_;obtain⟨rfl,X⟩:=a;obtain⟨H,I,K,X⟩:=aH (SH.unoptP X);refine x_m J rfl λU J=>wn (h _ _ ?_);refine nz 2 J rfl λU J=>aY J G rfl (λj G=>?_) λj G=>?_
 ·refine nz 2 J rfl λU J=>?_;replace X:=(aE (x:=b) (X.bGo [1,1])).pk 1;cases G;exact wp_ret (d _ _ (lv Tryz.results78 J rfl ⟨rfl,X⟩))
 refine wp_skip (g _ _ ?_);refine ws λM k=>xk 2 J rfl λU J=>?_;replace X:=X.bGo [1,1];obtain⟨N,l,G⟩:=bnd G;refine x_c aRx J rfl (jS l X :) λv U w a J=>?_;obtain⟨rfl,X⟩:=a;refine nk 5 J rfl λU J=>k _ _ (wp_seq_k λO m=>?_);refine nz 2 J rfl λU J=>aY J G rfl (λn G=>?_) λn G=>?_
 ·refine nz 1 J rfl λU J=>?_;replace X:=(aE (x:=b) (X.bGo [1,1])).pk 1;cases G;exact wp_ret (d _ _ (lv Tryz.results78 J rfl ⟨rfl,X⟩))
 refine wp_skip (m _ _ ?_);refine wp_seq_k λP o=>ws λQ p=>xk 1 J rfl λU J=>?_;replace X:=aE (x:=b) (X.bGo [1,1]);obtain⟨f,q,G⟩:=bnd G;refine x_c aQg J rfl (oE q X :) λv U w a J=>?_;obtain⟨rfl,X⟩:=a;obtain⟨R,S,T,X⟩:=aH X;refine nk 1 J rfl λU J=>p _ _ (aY J G rfl (λs G=>?_) λs G=>?_)
 ·refine nz 1 J rfl λU J=>?_;replace X:=(aE (x:=f.2) (X.bGo [1,1])).pk 1;cases G;exact wp_ret (d _ _ (lv Tryz.results78 J rfl ⟨rfl,X⟩))
 refine wp_skip (o _ _ ?_);refine ws λW t=>xk 2 J rfl λU J=>?_;replace X:=(aE (x:=f.2) (X.bGo [1,1])).pk 1;obtain⟨u,z,G⟩:=bnd G;refine x_c bBp J rfl (aCb z X :) λv U w a J=>?_;obtain⟨rfl,X⟩:=a;obtain⟨Y,Z,a0,X⟩:=aH (X.pk 1);refine wn (t _ _ ?_);refine nz 1 J rfl λU J=>?_;replace X:=(aE (x:=u) (X.bGo [1,1])).pk 1;cases G;exact wp_ret (d _ _ (lv Tryz.results78 J rfl ⟨rfl,X⟩))
theorem aB1 {a1 b e c y} (G:lF a1 b=some y) (X:SH r (blk e 29 [pP c]::obj77 c b::L) w) :
  Ret Tryz.prog 78 #[pP c,str a1,.func (.func 79) #[] #[pP e]] w λv w'=>v=bGj y.1/\SH r (blk e 29 [pP c]::obj77 c y.2::L) w':=by
 refine enter Tryz.func78 rfl Tryz.ntmps78 [(0,_),(1,_),(2,_)] rfl (by simp) ?_;intro U J Qf d a2;unfold lF at G;obtain⟨A,B,C,X⟩:=aH (X.pk 1);refine nz 1 J rfl λU J=>wp_seq_k λD g=>ws λE h=>xk 2 J rfl λU J=>?_;replace X:=SH.optS (aE (x:=b) (X.bGo [1,1]));obtain⟨F,i,G⟩:=bnd G;refine x_c aLj J rfl (fB i X :) λv U w a J=>?_;obtain⟨rfl,X⟩:=a;obtain⟨H,I,K,X⟩:=aH (SH.unoptP X);refine x_m J rfl λU J=>wn (h _ _ ?_);refine nz 2 J rfl λU J=>aY J G rfl (λj G=>?_) λj G=>?_
 ·refine nz 2 J rfl λU J=>?_;replace X:=(aE (x:=b) (X.bGo [1,1])).pk 1;cases G;exact wp_ret (d _ _ (lv Tryz.results78 J rfl ⟨rfl,X⟩))
 refine wp_skip (g _ _ ?_);refine ws λM k=>xk 2 J rfl λU J=>?_;replace X:=X.bGo [1,1];obtain⟨N,l,G⟩:=bnd G;refine x_c aRx J rfl (jS l X :) λv U w a J=>?_;obtain⟨rfl,X⟩:=a;refine nk 5 J rfl λU J=>k _ _ (wp_seq_k λO m=>?_);refine nz 2 J rfl λU J=>aY J G rfl (λn G=>?_) λn G=>?_
 ·refine nz 1 J rfl λU J=>?_;replace X:=(aE (x:=b) (X.bGo [1,1])).pk 1;cases G;exact wp_ret (d _ _ (lv Tryz.results78 J rfl ⟨rfl,X⟩))
 refine wp_skip (m _ _ ?_);refine wp_seq_k λP o=>ws λQ p=>xk 1 J rfl λU J=>?_;replace X:=aE (x:=b) (X.bGo [1,1]);obtain⟨f,q,G⟩:=bnd G;refine x_c aQg J rfl (oE q X :) λv U w a J=>?_;obtain⟨rfl,X⟩:=a;obtain⟨R,S,T,X⟩:=aH X;refine nk 1 J rfl λU J=>p _ _ (aY J G rfl (λs G=>?_) λs G=>?_)
 ·refine nz 1 J rfl λU J=>?_;replace X:=(aE (x:=f.2) (X.bGo [1,1])).pk 1;cases G;exact wp_ret (d _ _ (lv Tryz.results78 J rfl ⟨rfl,X⟩))
 refine wp_skip (o _ _ ?_);refine ws λW t=>xk 2 J rfl λU J=>?_;replace X:=(aE (x:=f.2) (X.bGo [1,1])).pk 1;obtain⟨u,z,G⟩:=bnd G;refine x_c bFo J rfl (aBc z X :) λv U w a J=>?_;obtain⟨rfl,X⟩:=a;obtain⟨Y,Z,a0,X⟩:=aH (X.pk 1);refine wn (t _ _ ?_);refine nz 1 J rfl λU J=>?_;replace X:=(aE (x:=u) (X.bGo [1,1])).pk 1;cases G;exact wp_ret (d _ _ (lv Tryz.results78 J rfl ⟨rfl,X⟩))
theorem aB2 {a1 b c f d g y} (G:oH a1 b c=some y) (X:SH r (blk f 29 [pP d]::obj77 d b::obj9 g c::L) w) :
  Ret Tryz.prog 78 #[pP d,str a1,.func (.func 90) #[] #[pP f,(pP g)]] w λv w'=>v=bGj y.1/\SH r (blk f 29 [pP d]::obj77 d y.2.1::obj9 g y.2.2::L) w':=by
 refine enter Tryz.func78 rfl Tryz.ntmps78 [(0,_),(1,_),(2,_)] rfl (by simp) ?_;intro U J Qf e a4;unfold oH at G;obtain⟨C,D,E,X⟩:=aH (X.pk 1);replace X:=uC (X.pk 3);refine nz 1 J rfl λU J=>wp_seq_k λF j=>ws λH k=>xk 2 J rfl λU J=>?_;replace X:=SH.optS (aE (x:=b) (X.bGo [2,2]));obtain⟨I,l,G⟩:=bnd G;refine x_c aLj J rfl (fB l X :) λv U w a J=>?_;obtain⟨rfl,X⟩:=a;obtain⟨K,M,N,X⟩:=aH (SH.unoptP X);refine x_m J rfl λU J=>wn (k _ _ ?_);refine nz 2 J rfl λU J=>aY J G rfl (λm G=>?_) λm G=>?_
 ·refine nz 2 J rfl λU J=>?_;replace X:=(sG (x:=c) ((aE (x:=b) (X.bGo [1,1])).pk 1)).bGo [1,2];cases G;exact wp_ret (e _ _ (lv Tryz.results78 J rfl ⟨rfl,X⟩))
 refine wp_skip (j _ _ ?_);refine ws λO n=>xk 2 J rfl λU J=>?_;replace X:=X.bGo [1,1];obtain⟨P,o,G⟩:=bnd G;refine x_c aRx J rfl (jS o X :) λv U w a J=>?_;obtain⟨rfl,X⟩:=a;refine nk 5 J rfl λU J=>n _ _ (wp_seq_k λQ p=>?_);refine nz 2 J rfl λU J=>aY J G rfl (λq G=>?_) λq G=>?_
 ·refine nz 1 J rfl λU J=>?_;replace X:=(sG (x:=c) ((aE (x:=b) (X.bGo [1,1])).pk 1)).bGo [1,2];cases G;exact wp_ret (e _ _ (lv Tryz.results78 J rfl ⟨rfl,X⟩))
 refine wp_skip (p _ _ ?_);refine wp_seq_k λR s=>ws λS t=>xk 1 J rfl λU J=>?_;replace X:=aE (x:=b) (X.bGo [1,1]);obtain⟨h,u,G⟩:=bnd G;refine x_c aQg J rfl (oE u X :) λv U w a J=>?_;obtain⟨rfl,X⟩:=a;obtain⟨T,W,Y,X⟩:=aH X;refine nk 1 J rfl λU J=>t _ _ (aY J G rfl (λz G=>?_) λz G=>?_)
 ·refine nz 1 J rfl λU J=>?_;replace X:=(sG (x:=c) ((aE (x:=h.2) (X.bGo [1,1])).pk 1)).bGo [1,2];cases G;exact wp_ret (e _ _ (lv Tryz.results78 J rfl ⟨rfl,X⟩))
 refine wp_skip (s _ _ ?_);refine ws λZ A=>xk 2 J rfl λU J=>?_;replace X:=(sG (x:=c) ((aE (x:=h.2) (X.bGo [1,1])).pk 1)).bGo [1,2];obtain⟨i,B,G⟩:=bnd G;refine x_c bFt J rfl (aBd B X :) λv U w a J=>?_;obtain⟨rfl,X⟩:=a;obtain⟨a0,a2,a3,X⟩:=aH (X.pk 1);replace X:=uC (X.pk 3);refine wn (A _ _ ?_);refine nz 1 J rfl λU J=>?_;replace X:=(sG (x:=i.2) ((aE (x:=i.1) (X.bGo [2,2])).pk 1)).bGo [1,2];cases G;exact wp_ret (e _ _ (lv Tryz.results78 J rfl ⟨rfl,X⟩))
theorem aEg {a0 a1 p0 y} (G:oR a0 a1=some y) (X:SH r (tQ (obj77) p0 a0::L) w) :
  Ret Tryz.prog 87 #[.pointer p0,str a1] w λv w'=>v=bGj y.1/\SH r (tQ (obj77) p0 y.2::L) w':=by
 refine enter Tryz.func87 rfl Tryz.ntmps87 [(0,_),(1,_)] rfl (by simp) ?_;intro U J Qf j C;unfold oR at G;cases a0 with
 | none =>
  have a:=SH.unoptN X;clear X;obtain⟨rfl,X⟩:=a;refine ws λl b=>lE J X rfl λc U w X J=>x_m J rfl λU J=>wn (b _ _ ?_);refine ws λm n=>aK pE (X.cell 0 rfl 0 _ rfl) J rfl λU J=>x_m J rfl λU J=>x_v J (gV rfl (lS (vals:=#[]) J rfl) (lS (vals:=#[pP c]) J rfl)) rfl λU J=>?_;cases G
 | some d =>
  have a:=SH.unoptS X;clear X;obtain⟨o,rfl,X⟩:=a;obtain⟨p,q,s,X⟩:=aH X;refine ws λt e=>lE J X rfl λf U w X J=>x_m J rfl λU J=>wn (e _ _ ?_);refine ws λu g=>aK pE (X.cell 0 rfl 0 _ rfl) J rfl λU J=>x_m J rfl λU J=>x_v J (gV rfl (lS (vals:=#[]) J rfl) (lS (vals:=#[pP f]) J rfl)) rfl λU J=>?_;replace X:=(aE (x:=d) (X.bGo [2,2])).pk 1;obtain⟨h,i,G⟩:=bnd G;refine x_c aZx J rfl (aD1 i X :) λv U w k J=>?_;obtain⟨rfl,X⟩:=k;obtain⟨z,A,B,X⟩:=aH (X.pk 1);refine x_m J rfl λU J=>wn (g _ _ ?_);replace X:=(SH.optS (aE (x:=h.2) (X.bGo [1,1]))).drop 1;cases G;exact wp_ret (j _ _ (lv Tryz.results87 J rfl ⟨rfl,X⟩))
theorem aB9 {a0 a1 p0 y} (G:pN a0 a1=some y) (X:SH r (tQ (obj77) p0 a0::L) w) :
  Ret Tryz.prog 56 #[.pointer p0,str a1] w λv w'=>v=bGj y.1/\SH r (tQ (obj77) p0 y.2::L) w':=by
 refine enter Tryz.func56 rfl Tryz.ntmps56 [(0,_),(1,_)] rfl (by simp) ?_;intro U J Qf j C;unfold pN at G;cases a0 with
 | none =>
  have a:=SH.unoptN X;clear X;obtain⟨rfl,X⟩:=a;refine ws λl b=>lE J X rfl λc U w X J=>x_m J rfl λU J=>wn (b _ _ ?_);refine ws λm n=>aK pE (X.cell 0 rfl 0 _ rfl) J rfl λU J=>x_m J rfl λU J=>x_v J (gV rfl (lS (vals:=#[]) J rfl) (lS (vals:=#[pP c]) J rfl)) rfl λU J=>?_;cases G
 | some d =>
  have a:=SH.unoptS X;clear X;obtain⟨o,rfl,X⟩:=a;obtain⟨p,q,s,X⟩:=aH X;refine ws λt e=>lE J X rfl λf U w X J=>x_m J rfl λU J=>wn (e _ _ ?_);refine ws λu g=>aK pE (X.cell 0 rfl 0 _ rfl) J rfl λU J=>x_m J rfl λU J=>x_v J (gV rfl (lS (vals:=#[]) J rfl) (lS (vals:=#[pP f]) J rfl)) rfl λU J=>?_;replace X:=(aE (x:=d) (X.bGo [2,2])).pk 1;obtain⟨h,i,G⟩:=bnd G;refine x_c aZx J rfl (aB1 i X :) λv U w k J=>?_;obtain⟨rfl,X⟩:=k;obtain⟨z,A,B,X⟩:=aH (X.pk 1);refine x_m J rfl λU J=>wn (g _ _ ?_);replace X:=(SH.optS (aE (x:=h.2) (X.bGo [1,1]))).drop 1;cases G;exact wp_ret (j _ _ (lv Tryz.results56 J rfl ⟨rfl,X⟩))
theorem aCa {a0 a1 a2 p0 y} (G:pO a0 a1 a2=some y) (X:SH r (tQ (obj77) p0 a0::L) w) :
  Ret Tryz.prog 62 #[.pointer p0,str a1,str a2] w λv w'=>v=bGj y.1/\SH r (tQ (obj77) p0 y.2::L) w':=by
 refine enter Tryz.func62 rfl Tryz.ntmps62 [(0,_),(1,_),(2,_)] rfl (by simp) ?_;intro U J Qf d b8;unfold pO at G;cases a0 with
 | none =>
  have e:=SH.unoptN X;clear X;obtain⟨rfl,X⟩:=e;refine ws λM f=>lE J X rfl λg U w X J=>lE J X rfl λh U w X J=>x_m J rfl λU J=>wn (f _ _ ?_);refine wp_seq_k λN i=>ws λO j=>aK pE (X.cell 1 rfl 0 _ rfl) J rfl λU J=>x_v (v:=.bool false) J (aA6 (p:=none) pE rfl (J.ev rfl) (J.ev rfl)) rfl λU J=>x_m J rfl λU J=>xO 3 rfl J rfl λU J=>bO rfl J rfl λU J=>wn (j _ _ ?_);refine c_f (b:=false) rfl J ?_ rfl;refine wp_skip (i _ _ ?_);refine wp_seq_k λP k=>ws λQ l=>aK pE (X.cell 1 rfl 0 _ rfl) J rfl λU J=>aK uu9 (X.cell 0 rfl 0 _ rfl) J rfl λU J=>?_;replace X:=SH.optN (obj77) X;obtain⟨R,m,G⟩:=bnd G;refine x_c aLj J rfl (fB m X :) λv U w a J=>?_;obtain⟨rfl,X⟩:=a;refine x_m J rfl λU J=>wn (l _ _ ?_);refine nz 2 J rfl λU J=>aY J G rfl (λn G=>?_) λn G=>?_
  ·refine nz 2 J rfl λU J=>?_;replace X:=(SH.optN (obj77) X).drop 1 |>.drop 1 |>.drop 1;cases G;exact wp_ret (d _ _ (lv Tryz.results62 J rfl ⟨rfl,X⟩))
  refine wp_skip (k _ _ ?_);refine ws λS T=>aK pE (X.cell 2 rfl 0 _ rfl) J rfl λU J=>x_m J rfl λU J=>x_v J (gV rfl (lS (vals:=#[]) J rfl) (lS (vals:=#[pP g,(pP h)]) J rfl)) rfl λU J=>?_;cases G
 | some c =>
  have e:=SH.unoptS X;clear X;obtain⟨o,rfl,X⟩:=e;obtain⟨W,Y,Z,X⟩:=aH X;refine ws λa3 q=>lE J X rfl λs U w X J=>lE J X rfl λt U w X J=>x_m J rfl λU J=>wn (q _ _ ?_);refine wp_seq_k λa4 u=>ws λa5 z=>aK pE (X.cell 1 rfl 0 _ rfl) J rfl λU J=>x_v (v:=.bool true) J (aA6 (p:=some ⟨o,0,none⟩) pE rfl (J.ev rfl) (J.ev rfl)) rfl λU J=>x_m J rfl λU J=>aI rfl J ?_ rfl;refine x_m J rfl λU J=>aI rfl J ?_ rfl;obtain⟨a6,A,G⟩:=bnd G;refine x_c bCi J rfl (aEy A X :) λv U w a J=>?_;obtain⟨rfl,X⟩:=a;refine aI rfl J ?_ rfl;refine xk 1 J rfl λU J=>mH rfl J rfl λU J=>wn (z _ _ ?_);refine aY J G rfl (λB G=>?_) λB G=>?_
  ·refine nz 1 J rfl λU J=>?_;replace X:=(SH.optS (aE (x:=c) (X.bGo [3,3]))).drop 1 |>.drop 1;cases G;exact wp_ret (d _ _ (lv Tryz.results62 J rfl ⟨rfl,X⟩))
  refine wp_skip (u _ _ ?_);refine wp_seq_k λa7 C=>ws λa8 D=>aK pE (X.cell 1 rfl 0 _ rfl) J rfl λU J=>aK uu9 (X.cell 0 rfl 0 _ rfl) J rfl λU J=>?_;replace X:=SH.optS (aE (x:=c) (X.bGo [3,3]));obtain⟨a9,E,G⟩:=bnd G;refine x_c aLj J rfl (fB E X :) λv U w a J=>?_;obtain⟨rfl,X⟩:=a;obtain⟨b1,b2,b3,X⟩:=aH (SH.unoptP X);refine x_m J rfl λU J=>wn (D _ _ ?_);refine nz 2 J rfl λU J=>aY J G rfl (λF G=>?_) λF G=>?_
  ·refine nz 2 J rfl λU J=>?_;replace X:=(SH.optS (aE (x:=c) (X.bGo [1,1]))).drop 1 |>.drop 1;cases G;exact wp_ret (d _ _ (lv Tryz.results62 J rfl ⟨rfl,X⟩))
  refine wp_skip (C _ _ ?_);refine ws λb4 H=>aK pE (X.cell 3 rfl 0 _ rfl) J rfl λU J=>x_m J rfl λU J=>x_v J (gV rfl (lS (vals:=#[]) J rfl) (lS (vals:=#[pP s,(pP t)]) J rfl)) rfl λU J=>?_;replace X:=(sG (x:=a2) ((aE (x:=c) (X.bGo [1,1])).pk 1)).bGo [1,2];obtain⟨I,K,G⟩:=bnd G;refine x_c aZx J rfl (aB2 K X :) λv U w a J=>?_;obtain⟨rfl,X⟩:=a;obtain⟨b5,b6,b7,X⟩:=aH (X.pk 1);replace X:=uC (X.pk 3);refine x_m J rfl λU J=>wn (H _ _ ?_);replace X:=(SH.optS (aE (x:=I.2.1) (X.bGo [2,2]))).drop 1 |>.drop 1;cases G;exact wp_ret (d _ _ (lv Tryz.results62 J rfl ⟨rfl,X⟩))
end
set_option maxHeartbeats 4000000 in
set_option maxRecDepth 100000 in
theorem aVq {r:World} {L:List HP} {w:World} {n:Int} (h0:0<n) (hn:n<=65536) (hS:SH r L w) :
    Ret Tryz.prog 63 #[.slice none 0 0,bGj n] w λv w'=>∃ (B:Option Addr) (c:Nat),v=.slice B 0 c/\SH r (own k46 46 B 0 c []::L) w':=by
  refine enter Tryz.func63 rfl Tryz.ntmps63 [(0,_),(1,_)] rfl (by simp) ?_;intro ac hA Qf f u;refine wp_seq_k λx i=>?_;refine aC ?_;refine eX hA (λac hA=>?_) rfl rfl rfl rfl rfl;refine wpList_nil ?_;refine i _ _ ?_;refine wp_seq_k λy j=>?_;refine wp_seq_k λC l=>?_;refine aC ?_;refine eE hA (λac hA=>?_) rfl rfl rfl rfl rfl;refine eK hA (aEa rfl (hA.ev rfl) (hA.ev rfl)) (λac hA=>?_) rfl rfl rfl;refine wpList_nil ?_;refine l _ _ ?_;refine aLe hA rfl (λhb=>?_) λhb=>?_
  · have:=of_decide_eq_true hb;omega
  refine wp_skip ?_;refine j _ _ ?_;refine wp_seq_k λD m=>?_;refine wp_seq_k λE o=>?_;refine aC ?_;refine eE hA (λac hA=>?_) rfl rfl rfl rfl rfl;refine eE hA (λac hA=>?_) rfl rfl rfl rfl rfl;refine eK hA (aUv Tryz.underlying38 rfl (hA.ev rfl)) (λac hA=>?_) rfl rfl rfl;refine eE hA (λac hA=>?_) rfl rfl rfl rfl rfl;refine eK hA (aCw Tryz.underlying38 rfl (hA.ev rfl)) (λac hA=>?_) rfl rfl rfl;refine eK hA (aAc rfl (hA.ev rfl) (hA.ev rfl)) (λac hA=>?_) rfl rfl rfl;refine eK hA (aAc rfl (hA.ev rfl) (hA.ev rfl)) (λac hA=>?_) rfl rfl rfl;refine eX hA (λac hA=>?_) rfl rfl rfl rfl rfl;refine wpList_nil ?_;refine o _ _ ?_;rw [show IntKind.i64.wrap (n - IntKind.i64.wrap (((0:Nat):Int) - ((0:Nat):Int)))=n by rw [IntKind.wrap_i64,IntKind.wrap_i64];omega] at hA;refine wp_seq_k λF p=>?_;refine aC ?_;refine eE hA (λac hA=>?_) rfl rfl rfl rfl rfl;refine eK hA (aD9 rfl (hA.ev rfl) (hA.ev rfl)) (λac hA=>?_) rfl rfl rfl;refine wpList_nil ?_;refine p _ _ ?_;refine aLe hA rfl (λhb=>?_) λhb=>?_
  rotate_left
  · have:=of_decide_eq_false hb;omega
  refine aC ?_;refine eE hA (λac hA=>?_) rfl rfl rfl rfl rfl;refine eE hA (λac hA=>?_) rfl rfl rfl rfl rfl;refine eK hA (aUv Tryz.underlying38 rfl (hA.ev rfl)) (λac hA=>?_) rfl rfl rfl;refine eK hA (lV (sz:=5) Tryz.underlying38 (by kernel_rfl) rfl (hA.ev rfl) (hA.ev rfl) (by decide) (by decide)) (λac hA=>?_) rfl rfl rfl;refine eE hA (λac hA=>?_) rfl rfl rfl rfl rfl;have b:(0+n.toNat) * 48<=140737488355328:=by omega
  refine aY5 (z0:=(⟨[],0,0,0,0⟩:S46)) (d:=k46) (e:=46) (kn:=.i64) (bytes:=48) (z:=.agg #[str [],bGk 0,bGk 0,bGj 0,bGj 0]) (k:=0) (c:=0) (A:=none) Tryz.underlying38 Tryz.underlying3 (by kernel_rfl) rfl hA hS (ys:=[]) (λh=>absurd h (by simp)) rfl ⟨h0,by omega,b⟩ (λG q ac w hS hA=>?_) rfl rfl rfl rfl rfl rfl rfl rfl;refine eE hA (λac hA=>?_) rfl rfl rfl rfl rfl;refine eK hA (aCw Tryz.underlying38 rfl (hA.ev rfl)) (λac hA=>?_) rfl rfl rfl;have s:=(hS.rd 0 rfl).2;refine eK hA (lV (sz:=5) Tryz.underlying38 (by kernel_rfl) rfl (hA.ev rfl) (hA.ev rfl) (by decide) (Int.natCast_nonneg _)) (λac hA=>?_) rfl rfl rfl;refine eX hA (λac hA=>?_) rfl rfl rfl rfl rfl;refine wpList_nil ?_;refine m _ _ ?_;obtain⟨g,hg,hS⟩:=aFf (by have:=s.2.1;omega) hS;have a:SH r (own k46 46 (some ⟨g,0,none⟩) 0 q []::L) w:=aL9 hS rfl;refine wp_seq_k λH t=>?_;refine aC ?_;refine eE hA (λac hA=>?_) rfl rfl rfl rfl rfl;refine eX hA (λac hA=>?_) rfl rfl rfl rfl rfl;refine wpList_nil ?_;refine t _ _ ?_;refine wp_ret ?_;refine f _ _ ?_;refine lv Tryz.results63 hA rfl ?_;rw [← hg] at a;exact⟨_,_,rfl,a⟩
section
variable {r:World} {L:List HP} {w:World} {p1 p2 p3:List S46} {H A1 A2 A3:Option Addr} {n1 c1 n2 c2 n3 c3:Nat}
def sl3 (n1 n2 n3:Nat):Nat->Nat
  | 0=>0 | 1=>n1 | 2=>n1+n2 | _=>n1+n2+n3
def pp3 (p1 p2 p3:List S46):Nat->List S46
  | 0=>[] | 1=>p1 | 2=>p1++p2 | _=>p1++p2++p3
theorem aX8 (a:RdL L k46 A1 n1 c1 p1) (b:RdL L k46 A2 n2 c2 p2) (c:RdL L k46 A3 n3 c3 p3) (k:Nat) (hk:k<3) :
    ∃ (e:Option Addr×Nat×Nat) (p:List S46),at_ [(A1,n1,c1),(A2,n2,c2),(A3,n3,c3)] (k:Int)=some e/\RdL L k46 e.1 e.2.1 e.2.2 p/\sl3 n1 n2 n3 (k+1)=sl3 n1 n2 n3 k+e.2.1/\pp3 p1 p2 p3 (k+1)=pp3 p1 p2 p3 k++p:=by
  rcases k with _ | _ | _ | k
  · exact⟨_,p1,rfl,a,by simp [sl3],by simp [pp3]⟩
  · exact⟨_,p2,rfl,b,by simp [sl3],by simp [pp3]⟩
  · exact⟨_,p3,rfl,c,by simp [sl3],by simp [pp3]⟩
  · omega
def aZk (k:Nat):Option (Nat⊕Unit):=if k<3 then some (.inl (k+1)) else some (.inr ())
theorem aJv:loop aZk 0=some ():=zK.2 ⟨4,rfl⟩
set_option maxHeartbeats 4000000 in
set_option maxRecDepth 100000 in
theorem aRh {y:List S46} (g:RdL L k46 A1 n1 c1 p1) (h:RdL L k46 A2 n2 c2 p2) (i:RdL L k46 A3 n3 c3 p3) (j:aE7 p1 p2 p3=some y)
    (hS:SH r (own kHd 38 H 3 3 [(A1,n1,c1),(A2,n2,c2),(A3,n3,c3)]::L) w) :
    Ret Tryz.prog 36 #[.slice H 3 3] w λv w'=>∃ (B:Option Addr) (m d:Nat),v=.slice B m d/\SH r (own k46 46 B m d y::L) w':=by
  obtain⟨⟨b6,b7⟩,j⟩:=aD j;cases j;have O:=(hS.rdl 1 g rfl).2.1;have P:=(hS.rdl 1 h rfl).2.1;have Q:=(hS.rdl 1 i rfl).2.1;have l:∀ k,sl3 n1 n2 n3 k<=65536:=by intro k;rcases k with _ | _ | _ | k <;> simp only [sl3] <;> omega
  have D:∀ k,(pp3 p1 p2 p3 k).length=sl3 n1 n2 n3 k:=by intro k;rcases k with _ | _ | _ | k <;> simp [pp3,sl3,O,P,Q] <;> omega
  refine enter Tryz.func36 rfl Tryz.ntmps36 [(0,_)] rfl (by simp) ?_;intro ac hA Qf R b8;refine wp_seq_k λK1 S=>?_;refine aC ?_;refine eX hA (λac hA=>?_) rfl rfl rfl rfl rfl;refine wpList_nil ?_;refine S _ _ ?_;refine wp_seq_k λK2 T=>?_;refine aC ?_;refine eX hA (λac hA=>?_) rfl rfl rfl rfl rfl;refine wpList_nil ?_;refine T _ _ ?_;refine wp_seq_k λK3 U=>?_;refine wp_seq_k λK4 W=>?_;refine aC ?_;refine eE hA (λac hA=>?_) rfl rfl rfl rfl rfl;refine eK hA (aCw Tryz.underlying121 rfl (hA.ev rfl)) (λac hA=>?_) rfl rfl rfl;refine eE hA (λac hA=>?_) rfl rfl rfl rfl rfl;refine wpList_nil ?_;refine W _ _ ?_;refine aA λKx X=>?_;refine aT aJv (λk ac w=>FR 36 [] ac [(0,.slice H 3 3),(3,bGj (sl3 n1 n2 n3 k:Nat)),(9,.slice H 3 3),(10,bGj 3),(11,bGj (k:Int))]/\SH r (own kHd 38 H 3 3 [(A1,n1,c1),(A2,n2,c2),(A3,n3,c3)]::L) w/\k<=3) ⟨hA.sub _ rfl,hS,by omega⟩ ?_;clear hA hS;intro N k o hb N_ T_ ac w q;obtain⟨hA,hS,hk⟩:=q;unfold aZk at hb;refine wp_seq_k λY s=>?_;refine aC ?_;refine eK hA (aEa rfl (hA.ev rfl) (hA.ev rfl)) (λac hA=>?_) rfl rfl rfl;refine wpList_nil ?_;refine s _ _ ?_;refine wp_seq_k λZ t=>?_;refine aLe hA rfl (λb=>?_) λb=>?_
  · have a:k<3:=by have:=of_decide_eq_true b;omega
    rw [if_pos a] at hb;cases hb;obtain⟨e,p,hz,hr,a0,_⟩:=aX8 g h i k a;refine wp_skip ?_;refine t _ _ ?_;refine wp_seq_k λK7 u=>?_;refine aA λKy x=>?_;refine wp_seq_k λK8 z=>?_;refine aC ?_;refine bAw Tryz.underlying121 (sz:=1) (by kernel_rfl) (hS.rd 0 rfl) hz hA (λac hA=>?_) rfl rfl rfl rfl rfl rfl;obtain⟨cs,A,hc⟩:=el (hS.rd 0 rfl) hz;obtain rfl:=A;refine aPz Tryz.underlying38 (hc 0 _ rfl) hA (λac hA=>?_) rfl rfl rfl rfl rfl rfl;refine eX hA (λac hA=>?_) rfl rfl rfl rfl rfl;refine wpList_nil ?_;refine z _ _ ?_;refine wp_seq_k λK9 a3=>?_;refine aC ?_;refine eE hA (λac hA=>?_) rfl rfl rfl rfl rfl;refine eE hA (λac hA=>?_) rfl rfl rfl rfl rfl;refine eK hA (aCw Tryz.underlying38 rfl (hA.ev rfl)) (λac hA=>?_) rfl rfl rfl;have e1:((sl3 n1 n2 n3 (k+1):Nat):Int)=IntKind.i64.wrap (((sl3 n1 n2 n3 k:Nat):Int)+((e.2.1:Nat):Int)):=by have:=l (k+1);rw [IntKind.wrap_i64];omega
    refine eK (v:=bGj ((sl3 n1 n2 n3 (k+1):Nat):Int)) hA (cM e1 (kW rfl (hA.ev rfl) (hA.ev rfl))) (λac hA=>?_) rfl rfl rfl;refine eX hA (λac hA=>?_) rfl rfl rfl rfl rfl;refine wpList_nil ?_;refine a3 _ _ ?_;refine wp_seq_k λb1 G=>?_;refine aC ?_;refine eE hA (λac hA=>?_) rfl rfl rfl rfl rfl;refine eK hA (aEa rfl (hA.ev rfl) (hA.ev rfl)) (λac hA=>?_) rfl rfl rfl;refine wpList_nil ?_;refine G _ _ ?_;refine aLe hA rfl (λf=>?_) λf=>?_
    · have:=of_decide_eq_true f;omega
    refine wp_skip ?_;refine x _ _ ?_;refine u _ _ ?_;refine aC ?_;have C:(((k+1:Nat)):Int)=IntKind.i64.wrap (((k:Nat):Int)+1):=by rw [IntKind.wrap_i64];omega
    refine eK (v:=bGj ((k+1:Nat):Int)) hA (cM C (kW rfl (hA.ev rfl) (hA.ev rfl))) (λac hA=>?_) rfl rfl rfl;refine eE hA (λac hA=>?_) rfl rfl rfl rfl rfl;refine wpList_nil ?_;exact⟨k+1,N_ _ rfl,hA.sub _ rfl,hS,by omega⟩
  have a:k=3:=by have:=of_decide_eq_false b;omega
  subst a;refine wp_exit ?_;refine X _ _ ?_;refine U _ _ ?_;refine wp_seq_k λb2 I=>?_;refine aC ?_;refine eE hA (λac hA=>?_) rfl rfl rfl rfl rfl;refine aJg (aZ Tryz.func63 (by kernel_rfl) rfl) hA (aVq (n:=((sl3 n1 n2 n3 3:Nat):Int)) (by simp only [sl3];omega) (by have:=l 3;omega) hS) (λv ac w hR hA=>?_) rfl rfl rfl rfl rfl;obtain⟨B,c,rfl,hS⟩:=hR;refine eX hA (λac hA=>?_) rfl rfl rfl rfl rfl;refine wpList_nil ?_;refine I _ _ ?_;refine wp_seq_k λb3 J=>?_;refine wp_seq_k λb4 K=>?_;refine aC ?_;refine eE hA (λac hA=>?_) rfl rfl rfl rfl rfl;refine eK hA (aCw Tryz.underlying121 rfl (hA.ev rfl)) (λac hA=>?_) rfl rfl rfl;refine eE hA (λac hA=>?_) rfl rfl rfl rfl rfl;refine wpList_nil ?_;refine K _ _ ?_;refine aA λc7 a6=>?_;refine aT aJv (λk ac w=>∃ (B:Option Addr) (c:Nat),FR 36 [] ac [(6,.slice B (sl3 n1 n2 n3 k) c),(25,.slice H 3 3),(26,bGj 3),(27,bGj (k:Int))]/\SH r (own k46 46 B (sl3 n1 n2 n3 k) c (pp3 p1 p2 p3 k)::own kHd 38 H 3 3 [(A1,n1,c1),(A2,n2,c2),(A3,n3,c3)]::L) w/\k<=3) ⟨B,c,hA.sub _ rfl,hS,by omega⟩ ?_;clear hA hS hb N_ T_ b hk;intro N k o hb N_ T_ ac w q;obtain⟨B,c,hA,hS,hk⟩:=q;unfold aZk at hb;refine wp_seq_k λY s=>?_;refine aC ?_;refine eK hA (aEa rfl (hA.ev rfl) (hA.ev rfl)) (λac hA=>?_) rfl rfl rfl;refine wpList_nil ?_;refine s _ _ ?_;refine wp_seq_k λZ t=>?_;refine aLe hA rfl (λb=>?_) λb=>?_
  · have a:k<3:=by have:=of_decide_eq_true b;omega
    rw [if_pos a] at hb;cases hb;obtain⟨e,p,hz,hr,a0,E⟩:=aX8 g h i k a;refine wp_skip ?_;refine t _ _ ?_;refine wp_seq_k λK7 u=>?_;refine aA λKy x=>?_;refine wp_seq_k λK8 z=>?_;refine aC ?_;refine bAw Tryz.underlying121 (sz:=1) (by kernel_rfl) (hS.rd 1 rfl) hz hA (λac hA=>?_) rfl rfl rfl rfl rfl rfl;obtain⟨cs,A,hc⟩:=el (hS.rd 1 rfl) hz;obtain rfl:=A;refine aPz Tryz.underlying38 (hc 0 _ rfl) hA (λac hA=>?_) rfl rfl rfl rfl rfl rfl;refine eX hA (λac hA=>?_) rfl rfl rfl rfl rfl;refine wpList_nil ?_;refine z _ _ ?_;refine aC ?_;refine eE hA (λac hA=>?_) rfl rfl rfl rfl rfl;refine eE hA (λac hA=>?_) rfl rfl rfl rfl rfl;have F:=hS.rdl 2 hr rfl;have f:(pp3 p1 p2 p3 k).length+p.length<=140737488355328 / 48:=by have:=l (k+1);have:=D (k+1);rw [E,List.length_append] at this;omega
    have hq:=D (k+1);refine aY6 0 aNp Tryz.underlying38 hA hS F.1 F.2.1 f rfl (λB2 c8 a9 ac w hS hA=>?_) rfl rfl rfl rfl rfl rfl rfl rfl rfl;refine eX hA (λac hA=>?_) rfl rfl rfl rfl rfl;refine wpList_nil ?_;refine x _ _ ?_;refine u _ _ ?_;refine aC ?_;have C:(((k+1:Nat)):Int)=IntKind.i64.wrap (((k:Nat):Int)+1):=by rw [IntKind.wrap_i64];omega
    refine eK (v:=bGj ((k+1:Nat):Int)) hA (cM C (kW rfl (hA.ev rfl) (hA.ev rfl))) (λac hA=>?_) rfl rfl rfl;refine eE hA (λac hA=>?_) rfl rfl rfl rfl rfl;refine wpList_nil ?_;rw [← E] at hS;have hn:=(hS.rd 0 rfl).2.1;rw [hq] at hn;subst hn;exact⟨k+1,N_ _ rfl,B2,a9,hA.sub _ rfl,hS,by omega⟩
  have a:k=3:=by have:=of_decide_eq_false b;omega
  subst a;refine wp_exit ?_;refine a6 _ _ ?_;refine J _ _ ?_;refine wp_seq_k λb5 M=>?_;refine aC ?_;refine eE hA (λac hA=>?_) rfl rfl rfl rfl rfl;refine eX hA (λac hA=>?_) rfl rfl rfl rfl rfl;refine wpList_nil ?_;refine M _ _ ?_;refine wp_ret ?_;refine R _ _ ?_;refine lv Tryz.results36 hA rfl ?_;exact⟨_,_,_,rfl,hS.drop 1⟩
end
noncomputable section
set_option linter.unusedSimpArgs false
def rU (a0 c:Int):Option (List UInt8):=(jX a0 10).bind λa=>(chk ([115,101,103,46].length+a.length<=maxLen) (chk (([115,101,103,46]++a).length+[46].length<=maxLen) ((jX c 10).bind λb=>(chk ((([115,101,103,46]++a)++[46]).length+b.length<=maxLen) (some ((([115,101,103,46]++a)++[46])++b))))))
def dK (a0:S79):Option (Int×S79):=if (a0.f2.length:Int)==0 then (some (0,a0)) else (ltt (IntKind.i64.wrap ((a0.f2.length:Int) - 1)) λa=>((at_ a0.f2 a).bind λb=>(some (b.f2,a0))))
def bK (a0:List S46):Option (List S46):=tE (a0).isEmpty (some []) (chk (([]:List S46).length+a0.length<=140737488355328 / 48) (some a0))
def cO (a0:S79):Option (List S46×S79):=(bK a0.f2).bind λa=>(some (a,a0))
def mJ (a0:S79):Option (Int×S79):=some (a0.f1,a0)
def kT (a0:S46) (a:List UInt8):Option (Bool×List UInt8):=some (a0.f0==a,a)
abbrev bHi:=(Int×List UInt8)
def dY (a:List UInt8):Option bHi:=some (-1,a)
def cF (a:List UInt8):Option bHi:=dY a
def aL (a0:List S46) (c:List UInt8) (a:Int):Option ((List UInt8×Int)⊕(List UInt8⊕(Int×List UInt8))):=if decide (a<(a0.length:Int)) then ((at_ a0 a).bind λd=>((kT d c).bind λb=>(if b.1=true then (some (.inr (.inr (a,b.2)))) else (ltt (IntKind.i64.wrap (a+1)) λe=>(some (.inl (b.2,e))))))) else (some (.inr (.inl (c))))
def cY (a0:List S46) (a:List UInt8):Option bHi:=(loop (λs=>aL a0 s.1 s.2) (a,0)).bind λt=>match t with | (.inl t)=>cF t | (.inr t)=>some t
def bU (a0:List S46) (b:List UInt8):Option (Bool×List UInt8):=(cY a0 b).bind λa=>(some (decide (0<=a.1),a.2))
abbrev bHj:=(Int×S79×S77)
def nX (a0:S79) (a:List S98) (b c:Int) (d:Bool) (e:Int):Option bHj:=some (0,a0,(⟨a,b,c,d,e⟩:S77))
def iQ (a0:S79) (a:List S98) (b c:Int) (d:Bool) (e:Int):Option bHj:=nX a0 a b c d e
abbrev bHk:=((List S98×Int×Int×Bool×Int×Int)⊕((List S98×Int×Int×Bool×Int)⊕(Int×S79×S77)))
def fF (a:Int) (b:List S98) (c d:Int) (e:Bool) (f:Int):Option bHk:=ltt (IntKind.i64.wrap (a+1)) λg=>(some (.inl (b,c,d,e,f,g)))
def eB (a0:S79) (c:List S98) (d e:Int) (f:Bool) (g h:Int) (i:(Bool×List UInt8)) (j:Bool):Option bHk:=if j=true then ((pN (some (⟨c,d,e,f,g⟩:S77)) i.2).bind λb=>((b.2).bind λa=>(if b.1 != 0 then (some (.inr (.inr (b.1,a0,a)))) else (fF h a.f0 a.f1 a.f2 a.f3 a.f4)))) else (fF h c d e f g)
def bP (a0:S79) (h:List (List UInt8)) (c:List S98) (d e:Int) (f:Bool) (g b:Int):Option bHk:=if decide (b<(h.length:Int)) then ((at_ h b).bind λi=>((bU a0.f2 i).bind λa=>(if a.2==[99,97,116,46,116,109,112] then (eB a0 c d e f g b a true) else ((nS a.2 [115,101,103,46]).bind λj=>(if j=true then (eB a0 c d e f g b a (!a.1)) else (eB a0 c d e f g b a false)))))) else (some (.inr (.inl (c,d,e,f,g))))
def cZ (a0:S79) (a:S77):Option bHj:=(lU (some a)).bind λb=>((loop (λs=>bP a0 b s.1 s.2.1 s.2.2.1 s.2.2.2.1 s.2.2.2.2.1 s.2.2.2.2.2) (a.f0,a.f1,a.f2,a.f3,a.f4,0)).bind λt=>match t with | (.inl t)=>iQ a0 t.1 t.2.1 t.2.2.1 t.2.2.2.1 t.2.2.2.2 | (.inr t)=>some t)
abbrev bHl:=((S140×S79)⊕(S140×S79))
def mU (a:List Int) (b:Int) (c:List S46):Option bHl:=some (.inl ((⟨a⟩:S140),(⟨(),b,c⟩:S79)))
def lJ (a:List Int) (b:Int) (c:List S46):Option bHl:=mU a b c
def eY (g:Int) (a b:(Int×S140)) (c d:(Int×S140)) (e:List UInt8) (h:List Int) (i:Int) (f:List S46):Option ((List Int×Int×List S46×Int)⊕((List Int×Int×List S46)⊕((S140×S79)⊕(S140×S79)))):=chk (f.length+[(⟨e,a.1,b.1,c.1,d.1⟩:S46)].length<=140737488355328 / 48) (ltt (IntKind.u64.wrap (g+1)) λj=>(some (.inl (h,i,f++[(⟨e,a.1,b.1,c.1,d.1⟩:S46)],j))))
def cG (n:(Int×S140)) (m:List Int) (f:Int) (g:List S46) (k:Int):Option ((List Int×Int×List S46×Int)⊕((List Int×Int×List S46)⊕((S140×S79)⊕(S140×S79)))):=if decide (k<n.1) then ((bC (⟨m⟩:S140) 1099511627776).bind λa=>(fN a (λa=>((bC a.2 1099511627776).bind λc=>(fN c (λc=>((cR c.2).bind λe=>(fN e (λe=>((cR e.2).bind λb=>(fN b (λb=>((rU a.1 c.1).bind λl=>((dK (⟨(),f,g⟩:S79)).bind λd=>(if a.1==d.1 then (if decide (a.1<c.1) then ((aJ b.2 (decide (e.1<=b.1))).bind λh=>(fN h (λh=>(eY k a c e b l h.f0 d.2.f1 d.2.f2)) (λh=>(some (.inr (.inr (.inr (h,d.2)))))))) else ((aJ b.2 false).bind λi=>(fN i (λi=>(eY k a c e b l i.f0 d.2.f1 d.2.f2)) (λi=>(some (.inr (.inr (.inr (i,d.2))))))))) else ((aJ b.2 false).bind λj=>(fN j (λj=>(eY k a c e b l j.f0 d.2.f1 d.2.f2)) (λj=>(some (.inr (.inr (.inr (j,d.2)))))))))))) (λb=>(some (.inr (.inr (.inr (b,(⟨(),f,g⟩:S79)))))))))) (λe=>(some (.inr (.inr (.inr (e,(⟨(),f,g⟩:S79)))))))))) (λc=>(some (.inr (.inr (.inr (c,(⟨(),f,g⟩:S79)))))))))) (λa=>(some (.inr (.inr (.inr (a,(⟨(),f,g⟩:S79))))))))) else (some (.inr (.inl (m,f,g))))
def lI (a0:S140) (c:S79):Option bHl:=ltt (IntKind.u64.wrap c.f1) λe=>((bC a0 8).bind λa=>(fN a (λa=>((aJ a.2 (a.1==e)).bind λd=>(fN d (λd=>((bC d 500).bind λb=>(fN b (λb=>((loop (λs=>cG b s.1 s.2.1 s.2.2.1 s.2.2.2) (b.2.f0,c.f1,c.f2,0)).bind λt=>match t with | (.inl t)=>lJ t.1 t.2.1 t.2.2 | (.inr t)=>some t)) (λb=>(some (.inr (b,c))))))) (λd=>(some (.inr (d,c))))))) (λa=>(some (.inr (a,c))))))
def lY (a0:List Int) (a:S79):Option (Bool×S79):=(lI (⟨a0⟩:S140) a).bind λy=>(fN y (λy=>some ((((y.1.f0.length:Int)==0),y.2))) (λy=>some ((false,y.2))))
def kJ (a0:S79) (c:List Int):Option (Int×S79):=(aCo c 99).bind λa=>(if a.2 != 0 then (some (a.2,a0)) else ((lY a.1 a0).bind λb=>(if !b.1 then (some (3,b.2)) else (some (0,b.2)))))
abbrev bHm:=(Option S79×Int×S77)
def mZ (a0:S77) (b:Int) (c:List S46):Option bHm:=(cZ (⟨(),b,c⟩:S79) a0).bind λa=>(if a.1 != 0 then (some (none,a.1,a.2.2)) else (some (some a.2.1,0,a.2.2)))
def pW (a0:S77) (c:Int) (d:Bool):Option bHm:=if d=true then (some (none,1,a0)) else ((oQ (some a0) [99,97,116]).bind λa=>(if a.2==5 then (mZ a0 c []) else (if a.2==0 then ((kJ (⟨(),c,[]⟩:S79) a.1).bind λb=>(if b.1 != 0 then (some (none,b.1,a0)) else (mZ a0 b.2.f1 b.2.f2))) else (some (none,a.2,a0)))))
def nD (a0:S77) (a:Int):Option bHm:=if decide (a<1) then (pW a0 a true) else (pW a0 a (decide (8<a)))
def lK (a0:S79) (a:List S98) (b c:Int) (d:Bool) (e f:Int):Option bHj:=some (f,a0,(⟨a,b,c,d,e⟩:S77))
def fK (a0:S79) (e:List UInt8) (a2:List Int) (f:S77):Option bHj:=(pM (some f) e a2).bind λc=>((c.2).bind λa=>(if c.1==0 then ((oR (some a) e).bind λd=>((d.2).bind λb=>(lK a0 b.f0 b.f1 b.f2 b.f3 b.f4 d.1))) else (lK a0 a.f0 a.f1 a.f2 a.f3 a.f4 c.1)))
def fU (a0:S79) (g:List S46) (d:S77) (e:List Int):Option bHj:=(wW [] 99 e).bind λf=>((fK a0 [99,97,116,46,116,109,112] f d).bind λa=>(if a.1 != 0 then (some (a.1,a.2.1,a.2.2)) else ((pO (some a.2.2) [99,97,116,46,116,109,112] [99,97,116]).bind λb=>((b.2).bind λc=>(if b.1 != 0 then (some (b.1,a.2.1,c)) else (some (0,(⟨(),a.2.1.f1,g⟩:S79),c)))))))
def iA (a0:S79) (c:List S46) (a:S77) (b:List Int):Option bHj:=fU a0 c a b
def cB (d:List S46) (c:List Int) (b:Int):Option ((List Int×Int)⊕List Int):=if decide (b<(d.length:Int)) then ((at_ d b).bind λa=>((fX c a.f1).bind λe=>((fX e a.f2).bind λf=>((lB f a.f3).bind λg=>((lB g a.f4).bind λh=>(ltt (IntKind.i64.wrap (b+1)) λi=>(some (.inl (h,i))))))))) else (some (.inr (c)))
def cQ (a0:S79) (a:List S46) (b:S77):Option bHj:=ltt (IntKind.u64.wrap a0.f1) λc=>((fX [] c).bind λd=>(ltt (IntKind.u64.wrap (a.length:Int)) λe=>((fX d e).bind λf=>((loop (λs=>cB a s.1 s.2) (f,0)).bind λt=>iA a0 a b t))))
abbrev bHn:=(S46×Int×S79×S77)
def kA (a0:S79) (d:S77) (e:(List Int×Int)) (b:(Int×Int)) (c:List UInt8) (f g:Int):Option bHn:=(fK a0 c e.1 d).bind λa=>(some ((⟨c,b.1,b.2,f,g⟩:S46),a.1,a.2.1,a.2.2))
def iP (a0:S79) (a:S77) (b:(List Int×Int)) (c:(Int×Int)) (d:List UInt8) (e f:Int):Option bHn:=kA a0 a b c d e f
def cI (e:List S61) (b c d:Int):Option ((Int×Int×Int)⊕(Int×Int)):=if decide (d<(e.length:Int)) then ((at_ e d).bind λa=>(ltt (IntKind.i64.wrap (d+1)) λf=>(some (.inl (if a.f2<b then a.f2 else b,if c<a.f2 then a.f2 else c,f))))) else (some (.inr (b,c)))
def kC (a0:S79) (f:List S61) (b:S77) (c:(List Int×Int)) (d:(Int×Int)) (e:List UInt8) (a:Int):Option bHn:=(loop (λs=>cI f s.1 s.2.1 s.2.2) (a,a,0)).bind λt=>iP a0 b c d e t.1 t.2
def dL (a0:S79) (c:List S61) (d:S77):Option bHn:=(tG c a0.f1).bind λa=>(if a.2 != 0 then (some ((⟨[],0,0,0,0⟩:S46),a.2,a0,d)) else ((sJ a.1).bind λe=>((hN e.1).bind λb=>((at_ c 0).bind λf=>((rU b.1 b.2).bind λg=>(kC a0 c d a b g f.f2))))))
def eZ (h:Int) (a:List S98) (b c:Int) (d:Bool) (e f:Int) (g:List S46):Option bHj:=some (h,(⟨(),f,g⟩:S79),(⟨a,b,c,d,e⟩:S77))
def fA (a0:S79) (c:Int) (b:S77) (d:Bool):Option bHj:=if d=true then ((cZ a0 b).bind λa=>(if a.1 != 0 then (some (a.1,a.2.1,a.2.2)) else (eZ c a.2.2.f0 a.2.2.f1 a.2.2.f2 a.2.2.f3 a.2.2.f4 a.2.1.f1 a.2.1.f2))) else (eZ c b.f0 b.f1 b.f2 b.f3 b.f4 a0.f1 a0.f2)
def dG (a0:S79) (a:Int) (b:S77):Option bHj:=if a != 0 then (fA a0 a b (a != 9)) else (fA a0 a b false)
def eO (b:List S98) (c d:Int) (e:Bool) (f g:Int) (h:List S46) (i:Int):Option bHj:=(dG (⟨(),g,h⟩:S79) i (⟨b,c,d,e,f⟩:S77)).bind λa=>(some (a.1,a.2.1,a.2.2))
def dN (h:List S61) (d:S77) (e:Int) (c:List S46) (g:Bool):Option bHj:=if g=true then (some (7,(⟨(),e,c⟩:S79),d)) else (if decide (250<=(c.length:Int)) then (some (2,(⟨(),e,c⟩:S79),d)) else ((dL (⟨(),e,c⟩:S79) h d).bind λa=>(if a.2.1==0 then ((bK a.2.2.1.f2).bind λf=>(chk (f.length+[a.1].length<=140737488355328 / 48) ((cQ a.2.2.1 (f++[a.1]) a.2.2.2).bind λb=>(eO b.2.2.f0 b.2.2.f1 b.2.2.f2 b.2.2.f3 b.2.2.f4 b.2.1.f1 b.2.1.f2 b.1)))) else (eO a.2.2.2.f0 a.2.2.2.f1 a.2.2.2.f2 a.2.2.2.f3 a.2.2.2.f4 a.2.2.1.f1 a.2.2.1.f2 a.2.1))))
def bH (a0:S79) (a:List S61) (c:S77):Option bHj:=if decide (0<(a.length:Int)) then ((at_ a 0).bind λd=>((dK a0).bind λb=>(dN a c b.2.f1 b.2.f2 (d.f0 != b.1)))) else (dN a c a0.f1 a0.f2 false)
abbrev bHo:=(List S61×Int×Int×S79×S77)
def oL (a0:S79) (a:S77) (b:List S61) (c:Int):Option bHo:=some (b,c,0,a0,a)
def mT (a0:S79) (a:S77) (b:List S61) (c:Int):Option bHo:=oL a0 a b c
abbrev bHp:=((List S61×Int×Int)⊕((List S61×Int)⊕(List S61×Int×Int×S79×S77)))
def fO (a:Int) (b:List S61) (c:Int):Option bHp:=ltt (IntKind.i64.wrap (a+1)) λd=>(some (.inl (b,c,d)))
def fP (a0:S79) (i:S26) (b:S77) (c:List S61) (d e:Int) (f:(Option S128×Int)) (g:Bool):Option bHp:=if g=true then (some (.inr (.inr ([],0,3,a0,b)))) else ((kP f.1 i).bind λa=>(if a.2.2 != 0 then (some (.inr (.inr ([],0,a.2.2,a0,b)))) else (chk (c.length+a.1.length<=140737488355328 / 48) (ltt (IntKind.i64.wrap (d+a.2.1)) λh=>(fO e (c++a.1) h)))))
def cP (a0:S79) (g:S26) (c:S77) (e:List S61) (f d:Int):Option bHp:=if decide (d<(a0.f2.length:Int)) then ((at_ a0.f2 d).bind λa=>(ltt (IntKind.u64.wrap (a.f2 - 1)) λj=>((jV g (⟨0,0,a.f1,j,a.f3,a.f4,[],[]⟩:S90)).bind λk=>(if !k then (fO d e f) else ((oQ (some c) a.f0).bind λh=>(if h.2 != 0 then (some (.inr (.inr ([],0,h.2,a0,c)))) else ((sJ h.1).bind λb=>(if b.2 != 0 then (some (.inr (.inr ([],0,b.2,a0,c)))) else ((hN b.1).bind λi=>(if i.1 != a.f1 then (fP a0 g c e f d b true) else (if i.2 != a.f2 then (fP a0 g c e f d b true) else ((mM b.1).bind λl=>(fP a0 g c e f d b (l != a0.f1)))))))))))))) else (some (.inr (.inl (e,f))))
def iC (a0:S79) (b:S26) (a:S77):Option bHo:=(loop (λs=>cP a0 b a s.1 s.2.1 s.2.2) ([],0,0)).bind λt=>match t with | (.inl t)=>mT a0 a t.1 t.2 | (.inr t)=>some t
def cL (b:List S98) (c d:Int) (e:Bool) (f g:Int) (h:List S46) (i:Int):Option bHj:=(dG (⟨(),g,h⟩:S79) i (⟨b,c,d,e,f⟩:S77)).bind λa=>(some (a.1,a.2.1,a.2.2))
def cK (b:List S98) (c d:Int) (e:Bool) (f g:Int) (h:List S46) (i:Int):Option bHj:=if i==0 then ((cZ (⟨(),g,h⟩:S79) (⟨b,c,d,e,f⟩:S77)).bind λa=>(cL a.2.2.f0 a.2.2.f1 a.2.2.f2 a.2.2.f3 a.2.2.f4 a.2.1.f1 a.2.1.f2 a.1)) else (cL b c d e f g h i)
def iO (a0:S79) (g:Int) (d:S77) (m:List UInt8) (e n:Int) (o p:Int) (q:List UInt8) (r f:Int) (s t:Int):Option bHj:=ltt (IntKind.u64.wrap (f - e)) λh=>(if decide (1024<h) then (some (2,a0,d)) else ((iC a0 (⟨e,f,-1099511627776,1099511627776⟩:S26) d).bind λc=>(if c.2.2.1 != 0 then (some (c.2.2.1,c.2.2.2.1,c.2.2.2.2)) else ((dL c.2.2.2.1 c.1 c.2.2.2.2).bind λa=>(if a.2.1==0 then ((kD a.2.2.1.f2 0 g).bind λi=>(ltt (IntKind.i64.wrap (g+2)) λj=>((kD a.2.2.1.f2 j (a.2.2.1.f2.length:Int)).bind λk=>((aE7 i [a.1] k).bind λl=>((cQ a.2.2.1 l a.2.2.2).bind λb=>(cK b.2.2.f0 b.2.2.f1 b.2.2.f2 b.2.2.f3 b.2.2.f4 b.2.1.f1 b.2.1.f2 b.1)))))) else (cK a.2.2.2.f0 a.2.2.2.f1 a.2.2.2.f2 a.2.2.2.f3 a.2.2.2.f4 a.2.2.1.f1 a.2.2.1.f2 a.2.1))))))
def eN (a0:S79) (c:Int) (d:S77) (e:Bool):Option bHj:=if e=true then (some (1,a0,d)) else ((at_ a0.f2 c).bind λa=>(ltt (IntKind.i64.wrap (c+1)) λf=>((at_ a0.f2 f).bind λb=>(iO a0 c d a.f0 a.f1 a.f2 a.f3 a.f4 b.f0 b.f1 b.f2 b.f3 b.f4))))
def bZ (a0:S79) (a:Int) (b:S77):Option bHj:=if decide (a<0) then (eN a0 a b true) else (ltt (IntKind.i64.wrap ((a0.f2.length:Int) - 1)) λc=>(eN a0 a b (decide (c<=a))))
end
end Go.Proofs.YtdkpjpoajlmmfaaGreatDoor.M
