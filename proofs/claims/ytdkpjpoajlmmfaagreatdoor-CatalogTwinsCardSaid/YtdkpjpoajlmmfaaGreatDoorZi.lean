/- Texts of the claim, joined: what it uses of Mfe, Vg, Dca. -/
import Derived.Test.YtdkpjpoajlmmfaaGreatDoorZh
namespace Go.Proofs.YtdkpjpoajlmmfaaGreatDoor.M
open Go Go.RowKit Go.Proofs.YtdkpjpoajlmmfaaGreatDoor.E
set_option linter.unusedVariables false
set_option maxRecDepth 100000
set_option maxHeartbeats 4000000
set_option linter.unusedSimpArgs false
section
variable {r:World} {L:List HP} {w:World} {Z:Nat->Prop} {wz:World}
theorem aDf {a1 z I C y} (G:nK a1 z=some y) (X:SH r (blk I 29 [.pointer (some ⟨C,0,none⟩)]::obj77 C z::L) w) :
  Ret Tryz.prog 78 #[.pointer (some ⟨C,0,none⟩),str a1,.func (.func 107) #[] #[.pointer (some ⟨I,0,none⟩)]] w λv w'=>v=.int .i64 y.1/\SH r (blk I 29 [.pointer (some ⟨C,0,none⟩)]::obj77 C y.2::L) w':=by
 refine enter Tryz.func78 rfl Tryz.ntmps78 [(0,_),(1,_),(2,_)] rfl (by simp) ?_;intro U J Qf hQ hQn;unfold nK at G;obtain⟨b8,b9,c0,X⟩:=aG (X.pk 1);refine nz 1 J rfl λU J=>wp_seq_k λc4 S=>ws λc5 Y=>xk 2 J rfl λU J=>?_;replace X:=SH.optS (aF (x:=z) (X.pk 1 |>.pk 1));obtain⟨c6,a0,G⟩:=bnd G;refine x_c aJ4 J rfl (eT a0 X :) λv U w hR J=>?_;obtain⟨rfl,X⟩:=hR;obtain⟨c7,c8,c9,X⟩:=aG (SH.unoptP X);refine x_m J rfl λU J=>wn (Y _ _ ?_);refine nz 2 J rfl λU J=>aX J G rfl (λa3 G=>?_) λa3 G=>?_
 ·refine nz 2 J rfl λU J=>?_;replace X:=(aF (x:=z) (X.pk 1 |>.pk 1)).pk 1;cases G;refine wp_ret (hQ _ _ ?_);exact lv Tryz.results78 J rfl ⟨rfl,X⟩
 refine wp_skip (S _ _ ?_);refine ws λd0 a4=>xk 2 J rfl λU J=>?_;replace X:=X.pk 1 |>.pk 1;obtain⟨d1,a5,G⟩:=bnd G;refine x_c aQs J rfl (kA a5 X :) λv U w hR J=>?_;obtain⟨rfl,X⟩:=hR;refine nk 5 J rfl λU J=>a4 _ _ (wp_seq_k λd2 a6=>?_);refine nz 2 J rfl λU J=>aX J G rfl (λa7 G=>?_) λa7 G=>?_
 ·refine nz 1 J rfl λU J=>?_;replace X:=(aF (x:=z) (X.pk 1 |>.pk 1)).pk 1;cases G;refine wp_ret (hQ _ _ ?_);exact lv Tryz.results78 J rfl ⟨rfl,X⟩
 refine wp_skip (a6 _ _ ?_);refine wp_seq_k λd3 a8=>ws λd4 a9=>xk 1 J rfl λU J=>?_;replace X:=aF (x:=z) (X.pk 1 |>.pk 1);obtain⟨N,b3,G⟩:=bnd G;refine x_c aPn J rfl (oL b3 X :) λv U w hR J=>?_;obtain⟨rfl,X⟩:=hR;obtain⟨d5,d6,d7,X⟩:=aG X;refine nk 1 J rfl λU J=>a9 _ _ (aX J G rfl (λb4 G=>?_) λb4 G=>?_)
 ·refine nz 1 J rfl λU J=>?_;replace X:=(aF (x:=N.2) (X.pk 1 |>.pk 1)).pk 1;cases G;refine wp_ret (hQ _ _ ?_);exact lv Tryz.results78 J rfl ⟨rfl,X⟩
 refine wp_skip (a8 _ _ ?_);refine ws λd8 b5=>xk 2 J rfl λU J=>?_;replace X:=(aF (x:=N.2) (X.pk 1 |>.pk 1)).pk 1;obtain⟨b6,b7,G⟩:=bnd G;refine x_c bAy J rfl (aBw b7 X :) λv U w hR J=>?_;obtain⟨rfl,X⟩:=hR;obtain⟨d9,e1,e2,X⟩:=aG (X.pk 1);refine wn (b5 _ _ ?_);refine nz 1 J rfl λU J=>?_;replace X:=(aF (x:=b6) (X.pk 1 |>.pk 1)).pk 1;cases G;refine wp_ret (hQ _ _ ?_);exact lv Tryz.results78 J rfl ⟨rfl,X⟩
theorem aBj {a1 z I C y} (G:lJ a1 z=some y) (X:SH r (blk I 29 [.pointer (some ⟨C,0,none⟩)]::obj77 C z::L) w) :
  Ret Tryz.prog 78 #[.pointer (some ⟨C,0,none⟩),str a1,.func (.func 79) #[] #[.pointer (some ⟨I,0,none⟩)]] w λv w'=>v=.int .i64 y.1/\SH r (blk I 29 [.pointer (some ⟨C,0,none⟩)]::obj77 C y.2::L) w':=by
 refine enter Tryz.func78 rfl Tryz.ntmps78 [(0,_),(1,_),(2,_)] rfl (by simp) ?_;intro U J Qf hQ hQn;unfold lJ at G;obtain⟨b8,b9,c0,X⟩:=aG (X.pk 1);refine nz 1 J rfl λU J=>wp_seq_k λc4 S=>ws λc5 Y=>xk 2 J rfl λU J=>?_;replace X:=SH.optS (aF (x:=z) (X.pk 1 |>.pk 1));obtain⟨c6,a0,G⟩:=bnd G;refine x_c aJ4 J rfl (eT a0 X :) λv U w hR J=>?_;obtain⟨rfl,X⟩:=hR;obtain⟨c7,c8,c9,X⟩:=aG (SH.unoptP X);refine x_m J rfl λU J=>wn (Y _ _ ?_);refine nz 2 J rfl λU J=>aX J G rfl (λa3 G=>?_) λa3 G=>?_
 ·refine nz 2 J rfl λU J=>?_;replace X:=(aF (x:=z) (X.pk 1 |>.pk 1)).pk 1;cases G;refine wp_ret (hQ _ _ ?_);exact lv Tryz.results78 J rfl ⟨rfl,X⟩
 refine wp_skip (S _ _ ?_);refine ws λd0 a4=>xk 2 J rfl λU J=>?_;replace X:=X.pk 1 |>.pk 1;obtain⟨d1,a5,G⟩:=bnd G;refine x_c aQs J rfl (kA a5 X :) λv U w hR J=>?_;obtain⟨rfl,X⟩:=hR;refine nk 5 J rfl λU J=>a4 _ _ (wp_seq_k λd2 a6=>?_);refine nz 2 J rfl λU J=>aX J G rfl (λa7 G=>?_) λa7 G=>?_
 ·refine nz 1 J rfl λU J=>?_;replace X:=(aF (x:=z) (X.pk 1 |>.pk 1)).pk 1;cases G;refine wp_ret (hQ _ _ ?_);exact lv Tryz.results78 J rfl ⟨rfl,X⟩
 refine wp_skip (a6 _ _ ?_);refine wp_seq_k λd3 a8=>ws λd4 a9=>xk 1 J rfl λU J=>?_;replace X:=aF (x:=z) (X.pk 1 |>.pk 1);obtain⟨N,b3,G⟩:=bnd G;refine x_c aPn J rfl (oL b3 X :) λv U w hR J=>?_;obtain⟨rfl,X⟩:=hR;obtain⟨d5,d6,d7,X⟩:=aG X;refine nk 1 J rfl λU J=>a9 _ _ (aX J G rfl (λb4 G=>?_) λb4 G=>?_)
 ·refine nz 1 J rfl λU J=>?_;replace X:=(aF (x:=N.2) (X.pk 1 |>.pk 1)).pk 1;cases G;refine wp_ret (hQ _ _ ?_);exact lv Tryz.results78 J rfl ⟨rfl,X⟩
 refine wp_skip (a8 _ _ ?_);refine ws λd8 b5=>xk 2 J rfl λU J=>?_;replace X:=(aF (x:=N.2) (X.pk 1 |>.pk 1)).pk 1;obtain⟨b6,b7,G⟩:=bnd G;refine x_c bDx J rfl (aA7 b7 X :) λv U w hR J=>?_;obtain⟨rfl,X⟩:=hR;obtain⟨d9,e1,e2,X⟩:=aG (X.pk 1);refine wn (b5 _ _ ?_);refine nz 1 J rfl λU J=>?_;replace X:=(aF (x:=b6) (X.pk 1 |>.pk 1)).pk 1;cases G;refine wp_ret (hQ _ _ ?_);exact lv Tryz.results78 J rfl ⟨rfl,X⟩
theorem aBi {a1 z C N I S y} (G:oM a1 z C=some y) (X:SH r (blk N 29 [.pointer (some ⟨I,0,none⟩)]::obj77 I z::obj9 S C::L) w) :
  Ret Tryz.prog 78 #[.pointer (some ⟨I,0,none⟩),str a1,.func (.func 90) #[] #[.pointer (some ⟨N,0,none⟩),(pP S)]] w λv w'=>v=.int .i64 y.1/\SH r (blk N 29 [.pointer (some ⟨I,0,none⟩)]::obj77 I y.2.1::obj9 S y.2.2::L) w':=by
 refine enter Tryz.func78 rfl Tryz.ntmps78 [(0,_),(1,_),(2,_)] rfl (by simp) ?_;intro U J Qf hQ hQn;unfold oM at G;obtain⟨c0,c4,c5,X⟩:=aG (X.pk 1);replace X:=uD (X.pk 3);refine nz 1 J rfl λU J=>wp_seq_k λc6 a3=>ws λc7 a4=>xk 2 J rfl λU J=>?_;replace X:=SH.optS (aF (x:=z) (X.pk 2 |>.pk 2));obtain⟨c8,a5,G⟩:=bnd G;refine x_c aJ4 J rfl (eT a5 X :) λv U w hR J=>?_;obtain⟨rfl,X⟩:=hR;obtain⟨c9,d0,d1,X⟩:=aG (SH.unoptP X);refine x_m J rfl λU J=>wn (a4 _ _ ?_);refine nz 2 J rfl λU J=>aX J G rfl (λa6 G=>?_) λa6 G=>?_
 ·refine nz 2 J rfl λU J=>?_;replace X:=(sA (x:=C) ((aF (x:=z) (X.pk 1 |>.pk 1)).pk 1)).pk 1 |>.pk 2;cases G;refine wp_ret (hQ _ _ ?_);exact lv Tryz.results78 J rfl ⟨rfl,X⟩
 refine wp_skip (a3 _ _ ?_);refine ws λd2 a7=>xk 2 J rfl λU J=>?_;replace X:=X.pk 1 |>.pk 1;obtain⟨d3,a8,G⟩:=bnd G;refine x_c aQs J rfl (kA a8 X :) λv U w hR J=>?_;obtain⟨rfl,X⟩:=hR;refine nk 5 J rfl λU J=>a7 _ _ (wp_seq_k λd4 a9=>?_);refine nz 2 J rfl λU J=>aX J G rfl (λb3 G=>?_) λb3 G=>?_
 ·refine nz 1 J rfl λU J=>?_;replace X:=(sA (x:=C) ((aF (x:=z) (X.pk 1 |>.pk 1)).pk 1)).pk 1 |>.pk 2;cases G;refine wp_ret (hQ _ _ ?_);exact lv Tryz.results78 J rfl ⟨rfl,X⟩
 refine wp_skip (a9 _ _ ?_);refine wp_seq_k λd5 b4=>ws λd6 b5=>xk 1 J rfl λU J=>?_;replace X:=aF (x:=z) (X.pk 1 |>.pk 1);obtain⟨Y,b6,G⟩:=bnd G;refine x_c aPn J rfl (oL b6 X :) λv U w hR J=>?_;obtain⟨rfl,X⟩:=hR;obtain⟨d7,d8,d9,X⟩:=aG X;refine nk 1 J rfl λU J=>b5 _ _ (aX J G rfl (λb7 G=>?_) λb7 G=>?_)
 ·refine nz 1 J rfl λU J=>?_;replace X:=(sA (x:=C) ((aF (x:=Y.2) (X.pk 1 |>.pk 1)).pk 1)).pk 1 |>.pk 2;cases G;refine wp_ret (hQ _ _ ?_);exact lv Tryz.results78 J rfl ⟨rfl,X⟩
 refine wp_skip (b4 _ _ ?_);refine ws λe1 b8=>xk 2 J rfl λU J=>?_;replace X:=(sA (x:=C) ((aF (x:=Y.2) (X.pk 1 |>.pk 1)).pk 1)).pk 1 |>.pk 2;obtain⟨a0,b9,G⟩:=bnd G;refine x_c bDg J rfl (aA0 b9 X :) λv U w hR J=>?_;obtain⟨rfl,X⟩:=hR;obtain⟨e2,e3,e4,X⟩:=aG (X.pk 1);replace X:=uD (X.pk 3);refine wn (b8 _ _ ?_);refine nz 1 J rfl λU J=>?_;replace X:=(sA (x:=a0.2) ((aF (x:=a0.1) (X.pk 2 |>.pk 2)).pk 1)).pk 1 |>.pk 2;cases G;refine wp_ret (hQ _ _ ?_);exact lv Tryz.results78 J rfl ⟨rfl,X⟩
theorem aDy {a0 a1 p0 y} (G:pG a0 a1=some y) (X:SH r (tP (obj77) p0 a0::L) w) :
  Ret Tryz.prog 87 #[.pointer p0,str a1] w λv w'=>v=.int .i64 y.1/\SH r (tP (obj77) p0 y.2::L) w':=by
 refine enter Tryz.func87 rfl Tryz.ntmps87 [(0,_),(1,_)] rfl (by simp) ?_;intro U J Qf hQ hQn;unfold pG at G;cases a0 with
 | none =>
  have hU:=SH.unoptN X;clear X;obtain⟨rfl,X⟩:=hU;refine ws λa5 z=>mF J X (λC U w X J=>?_) rfl;refine x_m J rfl λU J=>wn (z _ _ ?_);refine ws λa6 a7=>aM oX (X.cell 0 rfl 0 _ rfl) J (λU J=>?_) rfl;refine x_m J rfl λU J=>x_v J (gO rfl (lU (vals:=#[]) J rfl) (lU (vals:=#[.pointer (some ⟨C,0,none⟩)]) J rfl)) rfl λU J=>?_;cases G
 | some I =>
  have hU:=SH.unoptS X;clear X;obtain⟨a8,rfl,X⟩:=hU;obtain⟨a9,b3,b4,X⟩:=aG X;refine ws λb5 N=>mF J X (λS U w X J=>?_) rfl;refine x_m J rfl λU J=>wn (N _ _ ?_);refine ws λb6 Y=>aM oX (X.cell 0 rfl 0 _ rfl) J (λU J=>?_) rfl;refine x_m J rfl λU J=>x_v J (gO rfl (lU (vals:=#[]) J rfl) (lU (vals:=#[.pointer (some ⟨S,0,none⟩)]) J rfl)) rfl λU J=>?_;replace X:=(aF (x:=I) (X.pk 2 |>.pk 2)).pk 1;obtain⟨a3,a4,G⟩:=bnd G;refine x_c aZu J rfl (aDf a4 X :) λv U w hR J=>?_;obtain⟨rfl,X⟩:=hR;obtain⟨b7,b8,b9,X⟩:=aG (X.pk 1);refine x_m J rfl λU J=>wn (Y _ _ ?_);replace X:=(SH.optS (aF (x:=a3.2) (X.pk 1 |>.pk 1))).drop 1;cases G;refine wp_ret (hQ _ _ ?_);exact lv Tryz.results87 J rfl ⟨rfl,X⟩
theorem aBq {a0 a1 p0 y} (G:pY a0 a1=some y) (X:SH r (tP (obj77) p0 a0::L) w) :
  Ret Tryz.prog 56 #[.pointer p0,str a1] w λv w'=>v=.int .i64 y.1/\SH r (tP (obj77) p0 y.2::L) w':=by
 refine enter Tryz.func56 rfl Tryz.ntmps56 [(0,_),(1,_)] rfl (by simp) ?_;intro U J Qf hQ hQn;unfold pY at G;cases a0 with
 | none =>
  have hU:=SH.unoptN X;clear X;obtain⟨rfl,X⟩:=hU;refine ws λa5 z=>mF J X (λC U w X J=>?_) rfl;refine x_m J rfl λU J=>wn (z _ _ ?_);refine ws λa6 a7=>aM oX (X.cell 0 rfl 0 _ rfl) J (λU J=>?_) rfl;refine x_m J rfl λU J=>x_v J (gO rfl (lU (vals:=#[]) J rfl) (lU (vals:=#[.pointer (some ⟨C,0,none⟩)]) J rfl)) rfl λU J=>?_;cases G
 | some I =>
  have hU:=SH.unoptS X;clear X;obtain⟨a8,rfl,X⟩:=hU;obtain⟨a9,b3,b4,X⟩:=aG X;refine ws λb5 N=>mF J X (λS U w X J=>?_) rfl;refine x_m J rfl λU J=>wn (N _ _ ?_);refine ws λb6 Y=>aM oX (X.cell 0 rfl 0 _ rfl) J (λU J=>?_) rfl;refine x_m J rfl λU J=>x_v J (gO rfl (lU (vals:=#[]) J rfl) (lU (vals:=#[.pointer (some ⟨S,0,none⟩)]) J rfl)) rfl λU J=>?_;replace X:=(aF (x:=I) (X.pk 2 |>.pk 2)).pk 1;obtain⟨a3,a4,G⟩:=bnd G;refine x_c aZu J rfl (aBj a4 X :) λv U w hR J=>?_;obtain⟨rfl,X⟩:=hR;obtain⟨b7,b8,b9,X⟩:=aG (X.pk 1);refine x_m J rfl λU J=>wn (Y _ _ ?_);replace X:=(SH.optS (aF (x:=a3.2) (X.pk 1 |>.pk 1))).drop 1;cases G;refine wp_ret (hQ _ _ ?_);exact lv Tryz.results56 J rfl ⟨rfl,X⟩
theorem aB4 {a0 a1 a2 p0 y} (G:pQ a0 a1 a2=some y) (X:SH r (tP (obj77) p0 a0::L) w) :
  Ret Tryz.prog 62 #[.pointer p0,str a1,str a2] w λv w'=>v=.int .i64 y.1/\SH r (tP (obj77) p0 y.2::L) w':=by
 refine enter Tryz.func62 rfl Tryz.ntmps62 [(0,_),(1,_),(2,_)] rfl (by simp) ?_;intro U J Qf hQ hQn;unfold pQ at G;cases a0 with
 | none =>
  have hU:=SH.unoptN X;clear X;obtain⟨rfl,X⟩:=hU;refine ws λc8 C=>mF J X (λI U w X J=>?_) rfl;refine mF J X (λN U w X J=>?_) rfl;refine x_m J rfl λU J=>wn (C _ _ ?_);refine wp_seq_k λc9 S=>ws λd0 Y=>aM oX (X.cell 1 rfl 0 _ rfl) J (λU J=>?_) rfl;refine x_v (v:=.bool false) J (zV (p:=none) oX rfl (J.ev rfl) (J.ev rfl)) rfl λU J=>x_m J rfl λU J=>xO 3 rfl J rfl λU J=>cD rfl J (λU J=>?_) rfl;refine wn (Y _ _ ?_);refine c_f (b:=false) rfl J ?_ rfl;refine wp_skip (S _ _ ?_);refine wp_seq_k λd1 a3=>ws λd2 a4=>aM oX (X.cell 1 rfl 0 _ rfl) J (λU J=>?_) rfl;refine aM uu9 (X.cell 0 rfl 0 _ rfl) J (λU J=>?_) rfl;replace X:=SH.optN (obj77) X;obtain⟨d3,a5,G⟩:=bnd G;refine x_c aJ4 J rfl (eT a5 X :) λv U w hR J=>?_;obtain⟨rfl,X⟩:=hR;refine x_m J rfl λU J=>wn (a4 _ _ ?_);refine nz 2 J rfl λU J=>aX J G rfl (λa6 G=>?_) λa6 G=>?_
  ·refine nz 2 J rfl λU J=>?_;replace X:=(SH.optN (obj77) X).drop 1 |>.drop 1 |>.drop 1;cases G;refine wp_ret (hQ _ _ ?_);exact lv Tryz.results62 J rfl ⟨rfl,X⟩
  refine wp_skip (a3 _ _ ?_);refine ws λd4 d5=>aM oX (X.cell 2 rfl 0 _ rfl) J (λU J=>?_) rfl;refine x_m J rfl λU J=>x_v J (gO rfl (lU (vals:=#[]) J rfl) (lU (vals:=#[.pointer (some ⟨I,0,none⟩),(pP N)]) J rfl)) rfl λU J=>?_;cases G
 | some z =>
  have hU:=SH.unoptS X;clear X;obtain⟨a7,rfl,X⟩:=hU;obtain⟨d6,d7,d8,X⟩:=aG X;refine ws λd9 a8=>mF J X (λa9 U w X J=>?_) rfl;refine mF J X (λb3 U w X J=>?_) rfl;refine x_m J rfl λU J=>wn (a8 _ _ ?_);refine wp_seq_k λe1 b4=>ws λe2 b5=>aM oX (X.cell 1 rfl 0 _ rfl) J (λU J=>?_) rfl;refine x_v (v:=.bool true) J (zV (p:=some ⟨a7,0,none⟩) oX rfl (J.ev rfl) (J.ev rfl)) rfl λU J=>x_m J rfl λU J=>aN rfl J ?_ rfl;refine x_m J rfl λU J=>aN rfl J ?_ rfl;obtain⟨e3,b6,G⟩:=bnd G;refine x_c bBf J rfl (aD9 b6 X :) λv U w hR J=>?_;obtain⟨rfl,X⟩:=hR;refine aN rfl J ?_ rfl;refine xk 1 J rfl λU J=>oQ rfl J (λU J=>?_) rfl;refine wn (b5 _ _ ?_);refine aX J G rfl (λb7 G=>?_) λb7 G=>?_
  ·refine nz 1 J rfl λU J=>?_;replace X:=(SH.optS (aF (x:=z) (X.pk 3 |>.pk 3))).drop 1 |>.drop 1;cases G;refine wp_ret (hQ _ _ ?_);exact lv Tryz.results62 J rfl ⟨rfl,X⟩
  refine wp_skip (b4 _ _ ?_);refine wp_seq_k λe4 b8=>ws λe5 b9=>aM oX (X.cell 1 rfl 0 _ rfl) J (λU J=>?_) rfl;refine aM uu9 (X.cell 0 rfl 0 _ rfl) J (λU J=>?_) rfl;replace X:=SH.optS (aF (x:=z) (X.pk 3 |>.pk 3));obtain⟨e6,c0,G⟩:=bnd G;refine x_c aJ4 J rfl (eT c0 X :) λv U w hR J=>?_;obtain⟨rfl,X⟩:=hR;obtain⟨e7,e8,e9,X⟩:=aG (SH.unoptP X);refine x_m J rfl λU J=>wn (b9 _ _ ?_);refine nz 2 J rfl λU J=>aX J G rfl (λc4 G=>?_) λc4 G=>?_
  ·refine nz 2 J rfl λU J=>?_;replace X:=(SH.optS (aF (x:=z) (X.pk 1 |>.pk 1))).drop 1 |>.drop 1;cases G;refine wp_ret (hQ _ _ ?_);exact lv Tryz.results62 J rfl ⟨rfl,X⟩
  refine wp_skip (b8 _ _ ?_);refine ws λf0 c5=>aM oX (X.cell 3 rfl 0 _ rfl) J (λU J=>?_) rfl;refine x_m J rfl λU J=>x_v J (gO rfl (lU (vals:=#[]) J rfl) (lU (vals:=#[.pointer (some ⟨a9,0,none⟩),(pP b3)]) J rfl)) rfl λU J=>?_;replace X:=(sA (x:=a2) ((aF (x:=z) (X.pk 1 |>.pk 1)).pk 1)).pk 1 |>.pk 2;obtain⟨c6,c7,G⟩:=bnd G;refine x_c aZu J rfl (aBi c7 X :) λv U w hR J=>?_;obtain⟨rfl,X⟩:=hR;obtain⟨f1,f2,f3,X⟩:=aG (X.pk 1);replace X:=uD (X.pk 3);refine x_m J rfl λU J=>wn (c5 _ _ ?_);replace X:=(SH.optS (aF (x:=c6.2.1) (X.pk 2 |>.pk 2))).drop 1 |>.drop 1;cases G;refine wp_ret (hQ _ _ ?_);exact lv Tryz.results62 J rfl ⟨rfl,X⟩
end
set_option maxHeartbeats 4000000 in
set_option maxRecDepth 100000 in
theorem aVj {r:World} {L:List HP} {w:World} {n:Int} (h0:0<n) (hn:n<=65536) (hS:SH r L w) :
    Ret Tryz.prog 63 #[.slice none 0 0,.int .i64 n] w λv w'=>∃ (B:Option Addr) (c:Nat),v=.slice B 0 c/\SH r (own k46 46 B 0 c []::L) w':=by
  refine enter Tryz.func63 rfl Tryz.ntmps63 [(0,_),(1,_)] rfl (by simp) ?_;intro ac hA Qf hQ hQn;refine wp_seq_k λK1 hK1=>?_;refine aD ?_;refine eO hA (λac hA=>?_) rfl rfl rfl rfl rfl;refine wpList_nil ?_;refine hK1 _ _ ?_;refine wp_seq_k λK2 hK2=>?_;refine wp_seq_k λK3 hK3=>?_;refine aD ?_;refine dV hA (λac hA=>?_) rfl rfl rfl rfl rfl;refine dY hA (aDi rfl (hA.ev rfl) (hA.ev rfl)) (λac hA=>?_) rfl rfl rfl;refine wpList_nil ?_;refine hK3 _ _ ?_;refine aKi hA rfl (λhb=>?_) λhb=>?_
  · have:=of_decide_eq_true hb; omega
  refine wp_skip ?_;refine hK2 _ _ ?_;refine wp_seq_k λK5 hK5=>?_;refine wp_seq_k λK4 hK4=>?_;refine aD ?_;refine dV hA (λac hA=>?_) rfl rfl rfl rfl rfl;refine dV hA (λac hA=>?_) rfl rfl rfl rfl rfl;refine dY hA (aTx Tryz.underlying38 rfl (hA.ev rfl)) (λac hA=>?_) rfl rfl rfl;refine dV hA (λac hA=>?_) rfl rfl rfl rfl rfl;refine dY hA (aCj Tryz.underlying38 rfl (hA.ev rfl)) (λac hA=>?_) rfl rfl rfl;refine dY hA (zG rfl (hA.ev rfl) (hA.ev rfl)) (λac hA=>?_) rfl rfl rfl;refine dY hA (zG rfl (hA.ev rfl) (hA.ev rfl)) (λac hA=>?_) rfl rfl rfl;refine eO hA (λac hA=>?_) rfl rfl rfl rfl rfl;refine wpList_nil ?_;refine hK4 _ _ ?_;rw [show IntKind.i64.wrap (n - IntKind.i64.wrap (((0:Nat):Int) - ((0:Nat):Int)))=n by rw [IntKind.wrap_i64,IntKind.wrap_i64]; omega] at hA;refine wp_seq_k λK6 hK6=>?_;refine aD ?_;refine dV hA (λac hA=>?_) rfl rfl rfl rfl rfl;refine dY hA (aDl rfl (hA.ev rfl) (hA.ev rfl)) (λac hA=>?_) rfl rfl rfl;refine wpList_nil ?_;refine hK6 _ _ ?_;refine aKi hA rfl (λhb=>?_) λhb=>?_
  rotate_left
  · have:=of_decide_eq_false hb; omega
  refine aD ?_;refine dV hA (λac hA=>?_) rfl rfl rfl rfl rfl;refine dV hA (λac hA=>?_) rfl rfl rfl rfl rfl;refine dY hA (aTx Tryz.underlying38 rfl (hA.ev rfl)) (λac hA=>?_) rfl rfl rfl;refine dY hA (oU (sz:=5) Tryz.underlying38 (by kernel_rfl) rfl (hA.ev rfl) (hA.ev rfl) (by decide) (by decide)) (λac hA=>?_) rfl rfl rfl;refine dV hA (λac hA=>?_) rfl rfl rfl rfl rfl;have C:(0+n.toNat) * 48<=140737488355328:=by omega
  refine aXe (z0:=(⟨[],0,0,0,0⟩:S46)) (d:=k46) (e:=46) (kn:=.i64) (bytes:=48) (z:=.agg #[str [],.int .u64 0,.int .u64 0,.int .i64 0,.int .i64 0]) (k:=0) (c:=0) (A:=none) Tryz.underlying38 Tryz.underlying3 (by kernel_rfl) rfl hA hS (ys:=[]) (λh=>absurd h (by simp)) rfl ⟨h0,by omega,C⟩ (λg' c' ac w hS hA=>?_) rfl rfl rfl rfl rfl rfl rfl rfl;refine dV hA (λac hA=>?_) rfl rfl rfl rfl rfl;refine dY hA (aCj Tryz.underlying38 rfl (hA.ev rfl)) (λac hA=>?_) rfl rfl rfl;have hq:=(hS.rd 0 rfl).2;refine dY hA (oU (sz:=5) Tryz.underlying38 (by kernel_rfl) rfl (hA.ev rfl) (hA.ev rfl) (by decide) (Int.natCast_nonneg _)) (λac hA=>?_) rfl rfl rfl;refine eO hA (λac hA=>?_) rfl rfl rfl rfl rfl;refine wpList_nil ?_;refine hK5 _ _ ?_;obtain⟨g,hg,hS⟩:=aD5 (by have:=hq.2.1; omega) hS;have hS1:SH r (own k46 46 (some ⟨g,0,none⟩) 0 c' []::L) w:=aKa hS rfl;refine wp_seq_k λK7 hK7=>?_;refine aD ?_;refine dV hA (λac hA=>?_) rfl rfl rfl rfl rfl;refine eO hA (λac hA=>?_) rfl rfl rfl rfl rfl;refine wpList_nil ?_;refine hK7 _ _ ?_;refine wp_ret ?_;refine hQ _ _ ?_;refine lv Tryz.results63 hA rfl ?_;rw [← hg] at hS1;exact⟨_,_,rfl,hS1⟩
section
variable {r:World} {L:List HP} {w:World} {p1 p2 p3:List S46} {H A1 A2 A3:Option Addr} {n1 c1 n2 c2 n3 c3:Nat}
def sl3 (n1 n2 n3:Nat):Nat->Nat
  | 0=>0 | 1=>n1 | 2=>n1+n2 | _=>n1+n2+n3
def pp3 (p1 p2 p3:List S46):Nat->List S46
  | 0=>[] | 1=>p1 | 2=>p1++p2 | _=>p1++p2++p3
theorem aWz (h1:RdL L k46 A1 n1 c1 p1) (h2:RdL L k46 A2 n2 c2 p2) (h3:RdL L k46 A3 n3 c3 p3) (k:Nat) (hk:k<3) :
    ∃ (e:Option Addr×Nat×Nat) (p:List S46),at_ [(A1,n1,c1),(A2,n2,c2),(A3,n3,c3)] (k:Int)=some e/\RdL L k46 e.1 e.2.1 e.2.2 p/\sl3 n1 n2 n3 (k+1)=sl3 n1 n2 n3 k+e.2.1/\pp3 p1 p2 p3 (k+1)=pp3 p1 p2 p3 k++p:=by
  rcases k with _ | _ | _ | k
  · exact⟨_,p1,rfl,h1,by simp [sl3],by simp [pp3]⟩
  · exact⟨_,p2,rfl,h2,by simp [sl3],by simp [pp3]⟩
  · exact⟨_,p3,rfl,h3,by simp [sl3],by simp [pp3]⟩
  · omega
def aYs (k:Nat):Option (Nat⊕Unit):=if k<3 then some (.inl (k+1)) else some (.inr ())
theorem aJi:loop aYs 0=some ():=yJ.2 ⟨4,rfl⟩
set_option maxHeartbeats 4000000 in
set_option maxRecDepth 100000 in
theorem aQ8 {y:List S46} (h1:RdL L k46 A1 n1 c1 p1) (h2:RdL L k46 A2 n2 c2 p2) (h3:RdL L k46 A3 n3 c3 p3) (hF:aEu p1 p2 p3=some y)
    (hS:SH r (own kHd 38 H 3 3 [(A1,n1,c1),(A2,n2,c2),(A3,n3,c3)]::L) w) :
    Ret Tryz.prog 36 #[.slice H 3 3] w λv w'=>∃ (B:Option Addr) (m d:Nat),v=.slice B m d/\SH r (own k46 46 B m d y::L) w':=by
  obtain⟨⟨hp2,hmx⟩,hF⟩:=aC hF;cases hF;have l1:=(hS.rdl 1 h1 rfl).2.1;have l2:=(hS.rdl 1 h2 rfl).2.1;have l3:=(hS.rdl 1 h3 rfl).2.1;have hsl:∀ k,sl3 n1 n2 n3 k<=65536:=by intro k;rcases k with _ | _ | _ | k <;> simp only [sl3] <;> omega
  have hpl:∀ k,(pp3 p1 p2 p3 k).length=sl3 n1 n2 n3 k:=by intro k;rcases k with _ | _ | _ | k <;> simp [pp3,sl3,l1,l2,l3] <;> omega
  refine enter Tryz.func36 rfl Tryz.ntmps36 [(0,_)] rfl (by simp) ?_;intro ac hA Qf hQ hQn;refine wp_seq_k λK1 hK1=>?_;refine aD ?_;refine eO hA (λac hA=>?_) rfl rfl rfl rfl rfl;refine wpList_nil ?_;refine hK1 _ _ ?_;refine wp_seq_k λK2 hK2=>?_;refine aD ?_;refine eO hA (λac hA=>?_) rfl rfl rfl rfl rfl;refine wpList_nil ?_;refine hK2 _ _ ?_;refine wp_seq_k λK3 hK3=>?_;refine wp_seq_k λK4 hK4=>?_;refine aD ?_;refine dV hA (λac hA=>?_) rfl rfl rfl rfl rfl;refine dY hA (aCj Tryz.underlying121 rfl (hA.ev rfl)) (λac hA=>?_) rfl rfl rfl;refine dV hA (λac hA=>?_) rfl rfl rfl rfl rfl;refine wpList_nil ?_;refine hK4 _ _ ?_;refine aA λKx hKx=>?_;refine aT aJi (λk ac w=>FR 36 [] ac [(0,.slice H 3 3),(3,.int .i64 (sl3 n1 n2 n3 k:Nat)),(9,.slice H 3 3),(10,.int .i64 3),(11,.int .i64 (k:Int))]/\SH r (own kHd 38 H 3 3 [(A1,n1,c1),(A2,n2,c2),(A3,n3,c3)]::L) w/\k<=3) ⟨hA.sub _ rfl,hS,by omega⟩ ?_;clear hA hS;intro N k o hb N_ T_ ac w hLab;obtain⟨hA,hS,hk⟩:=hLab;unfold aYs at hb;refine wp_seq_k λK5 hK5=>?_;refine aD ?_;refine dY hA (aDi rfl (hA.ev rfl) (hA.ev rfl)) (λac hA=>?_) rfl rfl rfl;refine wpList_nil ?_;refine hK5 _ _ ?_;refine wp_seq_k λK6 hK6=>?_;refine aKi hA rfl (λhb1=>?_) λhb1=>?_
  · have hk3:k<3:=by have:=of_decide_eq_true hb1; omega
    rw [if_pos hk3] at hb;cases hb;obtain⟨e,p,hz,hr,hs',_⟩:=aWz h1 h2 h3 k hk3;refine wp_skip ?_;refine hK6 _ _ ?_;refine wp_seq_k λK7 hK7=>?_;refine aA λKy hKy=>?_;refine wp_seq_k λK8 hK8=>?_;refine aD ?_;refine aY6 Tryz.underlying121 (sz:=1) (by kernel_rfl) (hS.rd 0 rfl) hz hA (λac hA=>?_) rfl rfl rfl rfl rfl rfl;obtain⟨cs,hV,hc⟩:=el (hS.rd 0 rfl) hz;obtain rfl:=hV;refine aOh Tryz.underlying38 (hc 0 _ rfl) hA (λac hA=>?_) rfl rfl rfl rfl rfl rfl;refine eO hA (λac hA=>?_) rfl rfl rfl rfl rfl;refine wpList_nil ?_;refine hK8 _ _ ?_;refine wp_seq_k λK9 hK9=>?_;refine aD ?_;refine dV hA (λac hA=>?_) rfl rfl rfl rfl rfl;refine dV hA (λac hA=>?_) rfl rfl rfl rfl rfl;refine dY hA (aCj Tryz.underlying38 rfl (hA.ev rfl)) (λac hA=>?_) rfl rfl rfl;have e1:((sl3 n1 n2 n3 (k+1):Nat):Int)=IntKind.i64.wrap (((sl3 n1 n2 n3 k:Nat):Int)+((e.2.1:Nat):Int)):=by have:=hsl (k+1);rw [IntKind.wrap_i64]; omega
    refine dY (v:=.int .i64 ((sl3 n1 n2 n3 (k+1):Nat):Int)) hA (cO e1 (kT rfl (hA.ev rfl) (hA.ev rfl))) (λac hA=>?_) rfl rfl rfl;refine eO hA (λac hA=>?_) rfl rfl rfl rfl rfl;refine wpList_nil ?_;refine hK9 _ _ ?_;refine wp_seq_k λS z=>?_;refine aD ?_;refine dV hA (λac hA=>?_) rfl rfl rfl rfl rfl;refine dY hA (aDi rfl (hA.ev rfl) (hA.ev rfl)) (λac hA=>?_) rfl rfl rfl;refine wpList_nil ?_;refine z _ _ ?_;refine aKi hA rfl (λhb2=>?_) λhb2=>?_
    · have:=of_decide_eq_true hb2; omega
    refine wp_skip ?_;refine hKy _ _ ?_;refine hK7 _ _ ?_;refine aD ?_;have e2:(((k+1:Nat)):Int)=IntKind.i64.wrap (((k:Nat):Int)+1):=by rw [IntKind.wrap_i64]; omega
    refine dY (v:=.int .i64 ((k+1:Nat):Int)) hA (cO e2 (kT rfl (hA.ev rfl) (hA.ev rfl))) (λac hA=>?_) rfl rfl rfl;refine dV hA (λac hA=>?_) rfl rfl rfl rfl rfl;refine wpList_nil ?_;exact⟨k+1,N_ _ rfl,hA.sub _ rfl,hS,by omega⟩
  have hk3:k=3:=by have:=of_decide_eq_false hb1; omega
  subst hk3;refine wp_exit ?_;refine hKx _ _ ?_;refine hK3 _ _ ?_;refine wp_seq_k λU C=>?_;refine aD ?_;refine dV hA (λac hA=>?_) rfl rfl rfl rfl rfl;refine aIc (aZ Tryz.func63 (by kernel_rfl) rfl) hA (aVj (n:=((sl3 n1 n2 n3 3:Nat):Int)) (by simp only [sl3]; omega) (by have:=hsl 3; omega) hS) (λv ac w hR hA=>?_) rfl rfl rfl rfl rfl;obtain⟨B,c,rfl,hS⟩:=hR;refine eO hA (λac hA=>?_) rfl rfl rfl rfl rfl;refine wpList_nil ?_;refine C _ _ ?_;refine wp_seq_k λX G=>?_;refine wp_seq_k λY I=>?_;refine aD ?_;refine dV hA (λac hA=>?_) rfl rfl rfl rfl rfl;refine dY hA (aCj Tryz.underlying121 rfl (hA.ev rfl)) (λac hA=>?_) rfl rfl rfl;refine dV hA (λac hA=>?_) rfl rfl rfl rfl rfl;refine wpList_nil ?_;refine I _ _ ?_;refine aA λKx2 hKx2=>?_;refine aT aJi (λk ac w=>∃ (B:Option Addr) (c:Nat),FR 36 [] ac [(6,.slice B (sl3 n1 n2 n3 k) c),(25,.slice H 3 3),(26,.int .i64 3),(27,.int .i64 (k:Int))]/\SH r (own k46 46 B (sl3 n1 n2 n3 k) c (pp3 p1 p2 p3 k)::own kHd 38 H 3 3 [(A1,n1,c1),(A2,n2,c2),(A3,n3,c3)]::L) w/\k<=3) ⟨B,c,hA.sub _ rfl,hS,by omega⟩ ?_;clear hA hS hb N_ T_ hb1 hk;intro N k o hb N_ T_ ac w hLab;obtain⟨B,c,hA,hS,hk⟩:=hLab;unfold aYs at hb;refine wp_seq_k λK5 hK5=>?_;refine aD ?_;refine dY hA (aDi rfl (hA.ev rfl) (hA.ev rfl)) (λac hA=>?_) rfl rfl rfl;refine wpList_nil ?_;refine hK5 _ _ ?_;refine wp_seq_k λK6 hK6=>?_;refine aKi hA rfl (λhb1=>?_) λhb1=>?_
  · have hk3:k<3:=by have:=of_decide_eq_true hb1; omega
    rw [if_pos hk3] at hb;cases hb;obtain⟨e,p,hz,hr,hs',hp'⟩:=aWz h1 h2 h3 k hk3;refine wp_skip ?_;refine hK6 _ _ ?_;refine wp_seq_k λK7 hK7=>?_;refine aA λKy hKy=>?_;refine wp_seq_k λK8 hK8=>?_;refine aD ?_;refine aY6 Tryz.underlying121 (sz:=1) (by kernel_rfl) (hS.rd 1 rfl) hz hA (λac hA=>?_) rfl rfl rfl rfl rfl rfl;obtain⟨cs,hV,hc⟩:=el (hS.rd 1 rfl) hz;obtain rfl:=hV;refine aOh Tryz.underlying38 (hc 0 _ rfl) hA (λac hA=>?_) rfl rfl rfl rfl rfl rfl;refine eO hA (λac hA=>?_) rfl rfl rfl rfl rfl;refine wpList_nil ?_;refine hK8 _ _ ?_;refine aD ?_;refine dV hA (λac hA=>?_) rfl rfl rfl rfl rfl;refine dV hA (λac hA=>?_) rfl rfl rfl rfl rfl;have hr':=hS.rdl 2 hr rfl;have hb2:(pp3 p1 p2 p3 k).length+p.length<=140737488355328 / 48:=by have:=hsl (k+1); have:=hpl (k+1); rw [hp',List.length_append] at this; omega
    have hq:=hpl (k+1);refine aXi 0 aMv Tryz.underlying38 hA hS hr'.1 hr'.2.1 hb2 rfl (λB2 n2' c2' ac w hS hA=>?_) rfl rfl rfl rfl rfl rfl rfl rfl rfl;refine eO hA (λac hA=>?_) rfl rfl rfl rfl rfl;refine wpList_nil ?_;refine hKy _ _ ?_;refine hK7 _ _ ?_;refine aD ?_;have e2:(((k+1:Nat)):Int)=IntKind.i64.wrap (((k:Nat):Int)+1):=by rw [IntKind.wrap_i64]; omega
    refine dY (v:=.int .i64 ((k+1:Nat):Int)) hA (cO e2 (kT rfl (hA.ev rfl) (hA.ev rfl))) (λac hA=>?_) rfl rfl rfl;refine dV hA (λac hA=>?_) rfl rfl rfl rfl rfl;refine wpList_nil ?_;rw [← hp'] at hS;have hn:=(hS.rd 0 rfl).2.1;rw [hq] at hn;subst hn;exact⟨k+1,N_ _ rfl,B2,c2',hA.sub _ rfl,hS,by omega⟩
  have hk3:k=3:=by have:=of_decide_eq_false hb1; omega
  subst hk3;refine wp_exit ?_;refine hKx2 _ _ ?_;refine G _ _ ?_;refine wp_seq_k λa0 J=>?_;refine aD ?_;refine dV hA (λac hA=>?_) rfl rfl rfl rfl rfl;refine eO hA (λac hA=>?_) rfl rfl rfl rfl rfl;refine wpList_nil ?_;refine J _ _ ?_;refine wp_ret ?_;refine hQ _ _ ?_;refine lv Tryz.results36 hA rfl ?_;exact⟨_,_,_,rfl,hS.drop 1⟩
end
noncomputable section
set_option linter.unusedSimpArgs false
def sJ (a0:Int) (a1:Int):Option ((List UInt8)) :=
  (jS a0 10).bind λz=>(chk ([115,101,103,46].length+z.length<=maxLen) (chk (([115,101,103,46]++z).length+[46].length<=maxLen) ((jS a1 10).bind λC=>(chk ((([115,101,103,46]++z)++[46]).length+C.length<=maxLen) (some ((([115,101,103,46]++z)++[46])++C))))))
def eV (a0:S79):Option (Int×S79) :=
  if ((a0.f2.length:Int)==0)=true then (some (0,a0)) else (ltt (IntKind.i64.wrap ((a0.f2.length:Int) - 1)) λz=>((at_ a0.f2 z).bind λC=>(some (C.f2,a0))))
def bH (a0:(List S46)):Option ((List S46)) :=
  tE (a0).isEmpty (some []) (chk (([]:List S46).length+a0.length<=140737488355328 / 48) (some a0))
def eI (a0:S79):Option ((List S46)×S79) :=
  (bH a0.f2).bind λz=>(some (z,a0))
def lD (a0:S46) (a1:(List UInt8)):Option (Bool×(List UInt8)) :=
  some (a0.f0==a1,a1)
def dQ (z:(List UInt8)):Option (Int×(List UInt8)) :=
  some (-1,z)
def cF (z:(List UInt8)):Option (Int×(List UInt8)) :=
  dQ z
def aJ (a0:(List S46)) (G:(List UInt8)) (z:Int):Option (((List UInt8)×Int)⊕(((List UInt8))⊕(Int×(List UInt8)))) :=
  if (decide (z<(a0.length:Int)))=true then ((at_ a0 z).bind λI=>((lD I G).bind λC=>(if C.1=true then (some (.inr (.inr (z,C.2)))) else (ltt (IntKind.i64.wrap (z+1)) λJ=>(some (.inl (C.2,J))))))) else (some (.inr (.inl (G))))
def cR (a0:(List S46)) (z:(List UInt8)):Option (Int×(List UInt8)) :=
  (loop (λs=>aJ a0 s.1 s.2) (z,0)).bind λt=>match t with | (.inl t)=>cF t | (.inr t)=>some t
def bQ (a0:(List S46)) (C:(List UInt8)):Option (Bool×(List UInt8)) :=
  (cR a0 C).bind λz=>(some (decide (0<=z.1),z.2))
def oE (a0:S79) (z:(List S98)) (C:Int) (G:Int) (I:Bool) (J:Int):Option (Int×S79×S77) :=
  some (0,a0,(⟨z,C,G,I,J⟩:S77))
def iQ (a0:S79) (z:(List S98)) (C:Int) (G:Int) (I:Bool) (J:Int):Option (Int×S79×S77) :=
  oE a0 z C G I J
def fD (z:Int) (C:(List S98)) (G:Int) (I:Int) (J:Bool) (N:Int):Option (((List S98)×Int×Int×Bool×Int×Int)⊕(((List S98)×Int×Int×Bool×Int)⊕(Int×S79×S77))) :=
  ltt (IntKind.i64.wrap (z+1)) λS=>(some (.inl (C,G,I,J,N,S)))
def dT (a0:S79) (G:(List S98)) (I:Int) (J:Int) (N:Bool) (S:Int) (U:Int) (X:(Bool×(List UInt8))) (Y:Bool):Option (((List S98)×Int×Int×Bool×Int×Int)⊕(((List S98)×Int×Int×Bool×Int)⊕(Int×S79×S77))) :=
  if Y=true then ((pY (some (⟨G,I,J,N,S⟩:S77)) X.2).bind λC=>((C.2).bind λz=>(if (C.1 != 0)=true then (some (.inr (.inr (C.1,a0,z)))) else (fD U z.f0 z.f1 z.f2 z.f3 z.f4)))) else (fD U G I J N S)
def bL (a0:S79) (U:((List (List UInt8)))) (G:(List S98)) (I:Int) (J:Int) (N:Bool) (S:Int) (C:Int):Option (((List S98)×Int×Int×Bool×Int×Int)⊕(((List S98)×Int×Int×Bool×Int)⊕(Int×S79×S77))) :=
  if (decide (C<(U.length:Int)))=true then ((at_ U C).bind λX=>((bQ a0.f2 X).bind λz=>(if (z.2==[99,97,116,46,116,109,112])=true then (dT a0 G I J N S C z true) else ((nG z.2 [115,101,103,46]).bind λY=>(if Y=true then (dT a0 G I J N S C z (!z.1)) else (dT a0 G I J N S C z false)))))) else (some (.inr (.inl (G,I,J,N,S))))
def dA (a0:S79) (z:S77):Option (Int×S79×S77) :=
  (jU (some z)).bind λC=>((loop (λs=>bL a0 C s.1 s.2.1 s.2.2.1 s.2.2.2.1 s.2.2.2.2.1 s.2.2.2.2.2) (z.f0,z.f1,z.f2,z.f3,z.f4,0)).bind λt=>match t with | (.inl t)=>iQ a0 t.1 t.2.1 t.2.2.1 t.2.2.2.1 t.2.2.2.2 | (.inr t)=>some t)
def mV (z:(List Int)) (C:Int) (G:(List S46)):Option ((S140×S79)⊕(S140×S79)) :=
  some (.inl ((⟨z⟩:S140),(⟨(),C,G⟩:S79)))
def lO (z:(List Int)) (C:Int) (G:(List S46)):Option ((S140×S79)⊕(S140×S79)) :=
  mV z C G
def eS (S:Int) (z:(Int×S140)) (C:(Int×S140)) (G:(Int×S140)) (I:(Int×S140)) (J:((List UInt8))) (U:(List Int)) (X:Int) (N:(List S46)):Option (((List Int)×Int×(List S46)×Int)⊕(((List Int)×Int×(List S46))⊕((S140×S79)⊕(S140×S79)))) :=
  chk (N.length+[(⟨J,z.1,C.1,G.1,I.1⟩:S46)].length<=140737488355328 / 48) (ltt (IntKind.u64.wrap (S+1)) λY=>(some (.inl (U,X,N++[(⟨J,z.1,C.1,G.1,I.1⟩:S46)],Y))))
def cG (a4:(Int×S140)) (a3:(List Int)) (N:Int) (S:(List S46)) (a0:Int):Option (((List Int)×Int×(List S46)×Int)⊕(((List Int)×Int×(List S46))⊕((S140×S79)⊕(S140×S79)))) :=
  if (decide (a0<a4.1))=true then ((bC (⟨a3⟩:S140) 1099511627776).bind λz=>(fL z (λz=>((bC z.2 1099511627776).bind λG=>(fL G (λG=>((cX G.2).bind λJ=>(fL J (λJ=>((cX J.2).bind λC=>(fL C (λC=>((sJ z.1 G.1).bind λa1=>((eV (⟨(),N,S⟩:S79)).bind λI=>(if (z.1==I.1)=true then (if (decide (z.1<G.1))=true then ((aI C.2 (decide (J.1<=C.1))).bind λU=>(fL U (λU=>(eS a0 z G J C a1 U.f0 I.2.f1 I.2.f2)) (λU=>(some (.inr (.inr (.inr (U,I.2)))))))) else ((aI C.2 false).bind λX=>(fL X (λX=>(eS a0 z G J C a1 X.f0 I.2.f1 I.2.f2)) (λX=>(some (.inr (.inr (.inr (X,I.2))))))))) else ((aI C.2 false).bind λY=>(fL Y (λY=>(eS a0 z G J C a1 Y.f0 I.2.f1 I.2.f2)) (λY=>(some (.inr (.inr (.inr (Y,I.2)))))))))))) (λC=>(some (.inr (.inr (.inr (C,(⟨(),N,S⟩:S79)))))))))) (λJ=>(some (.inr (.inr (.inr (J,(⟨(),N,S⟩:S79)))))))))) (λG=>(some (.inr (.inr (.inr (G,(⟨(),N,S⟩:S79)))))))))) (λz=>(some (.inr (.inr (.inr (z,(⟨(),N,S⟩:S79))))))))) else (some (.inr (.inl (a3,N,S))))
def lQ (a0:S140) (a1:S79):Option ((S140×S79)⊕(S140×S79)) :=
  ltt (IntKind.u64.wrap a1.f1) λI=>((bC a0 8).bind λz=>(fL z (λz=>((aI z.2 (z.1==I)).bind λG=>(fL G (λG=>((bC G 500).bind λC=>(fL C (λC=>((loop (λs=>cG C s.1 s.2.1 s.2.2.1 s.2.2.2) (C.2.f0,a1.f1,a1.f2,0)).bind λt=>match t with | (.inl t)=>lO t.1 t.2.1 t.2.2 | (.inr t)=>some t)) (λC=>(some (.inr (C,a1))))))) (λG=>(some (.inr (G,a1))))))) (λz=>(some (.inr (z,a1))))))
def mG (a0:(List Int)) (z:S79):Option (Bool×S79) :=
  (lQ (⟨a0⟩:S140) z).bind λy=>(fL y (λy=>some ((((y.1.f0.length:Int)==0),y.2))) (λy=>some ((false,y.2))))
def kP (a0:S79) (a1:(List Int)):Option (Int×S79) :=
  (aCk a1 99).bind λz=>(if (z.2 != 0)=true then (some (z.2,a0)) else ((mG z.1 a0).bind λC=>(if (!C.1)=true then (some (3,C.2)) else (some (0,C.2)))))
def nC (a0:S77) (C:Int) (G:(List S46)):Option ((Option S79)×Int×S77) :=
  (dA (⟨(),C,G⟩:S79) a0).bind λz=>(if (z.1 != 0)=true then (some (none,z.1,z.2.2)) else (some (some z.2.1,0,z.2.2)))
def qA (a0:S77) (a1:Int) (G:Bool):Option ((Option S79)×Int×S77) :=
  if G=true then (some (none,1,a0)) else ((jT (some a0) [99,97,116]).bind λz=>(if (z.2==5)=true then (nC a0 a1 []) else (if (z.2==0)=true then ((kP (⟨(),a1,[]⟩:S79) z.1).bind λC=>(if (C.1 != 0)=true then (some (none,C.1,a0)) else (nC a0 C.2.f1 C.2.f2))) else (some (none,z.2,a0)))))
def nI (a0:S77) (a1:Int):Option ((Option S79)×Int×S77) :=
  if (decide (a1<1))=true then (qA a0 a1 true) else (qA a0 a1 (decide (8<a1)))
def lP (a0:S79) (z:(List S98)) (C:Int) (G:Int) (I:Bool) (J:Int) (N:Int):Option (Int×S79×S77) :=
  some (N,a0,(⟨z,C,G,I,J⟩:S77))
def fF (a0:S79) (a1:(List UInt8)) (a2:(List Int)) (J:S77):Option (Int×S79×S77) :=
  (pK (some J) a1 a2).bind λG=>((G.2).bind λz=>(if (G.1==0)=true then ((pG (some z) a1).bind λI=>((I.2).bind λC=>(lP a0 C.f0 C.f1 C.f2 C.f3 C.f4 I.1))) else (lP a0 z.f0 z.f1 z.f2 z.f3 z.f4 G.1)))
def fT (a0:S79) (a1:(List S46)) (I:S77) (J:(List Int)):Option (Int×S79×S77) :=
  (wL [] 99 J).bind λN=>((fF a0 [99,97,116,46,116,109,112] N I).bind λz=>(if (z.1 != 0)=true then (some (z.1,z.2.1,z.2.2)) else ((pQ (some z.2.2) [99,97,116,46,116,109,112] [99,97,116]).bind λC=>((C.2).bind λG=>(if (C.1 != 0)=true then (some (C.1,z.2.1,G)) else (some (0,(⟨(),z.2.1.f1,a1⟩:S79),G)))))))
def iB (a0:S79) (a1:(List S46)) (z:S77) (C:(List Int)):Option (Int×S79×S77) :=
  fT a0 a1 z C
def cE (a1:(List S46)) (G:(List Int)) (C:Int):Option (((List Int)×Int)⊕(((List Int)))) :=
  if (decide (C<(a1.length:Int)))=true then ((at_ a1 C).bind λz=>((fU G z.f1).bind λI=>((fU I z.f2).bind λJ=>((lH J z.f3).bind λN=>((lH N z.f4).bind λS=>(ltt (IntKind.i64.wrap (C+1)) λU=>(some (.inl (S,U))))))))) else (some (.inr (G)))
def cV (a0:S79) (a1:(List S46)) (z:S77):Option (Int×S79×S77) :=
  ltt (IntKind.u64.wrap a0.f1) λC=>((fU [] C).bind λG=>(ltt (IntKind.u64.wrap (a1.length:Int)) λI=>((fU G I).bind λJ=>((loop (λs=>cE a1 s.1 s.2) (J,0)).bind λt=>iB a0 a1 z t))))
def kH (a0:S79) (I:S77) (J:((List Int)×Int)) (C:(Int×Int)) (G:(List UInt8)) (N:Int) (S:Int):Option (S46×Int×S79×S77) :=
  (fF a0 G J.1 I).bind λz=>(some ((⟨G,C.1,C.2,N,S⟩:S46),z.1,z.2.1,z.2.2))
def iP (a0:S79) (z:S77) (C:((List Int)×Int)) (G:(Int×Int)) (I:(List UInt8)) (J:Int) (N:Int):Option (S46×Int×S79×S77) :=
  kH a0 z C G I J N
def cJ (a1:(List S61)) (C:Int) (G:Int) (I:Int):Option ((Int×Int×Int)⊕((Int×Int))) :=
  if (decide (I<(a1.length:Int)))=true then ((at_ a1 I).bind λz=>(ltt (IntKind.i64.wrap (I+1)) λJ=>(some (.inl (if z.f2<C then z.f2 else C,if G<z.f2 then z.f2 else G,J))))) else (some (.inr (C,G)))
def kJ (a0:S79) (a1:(List S61)) (C:S77) (G:((List Int)×Int)) (I:(Int×Int)) (J:(List UInt8)) (z:Int):Option (S46×Int×S79×S77) :=
  (loop (λs=>cJ a1 s.1 s.2.1 s.2.2) (z,z,0)).bind λt=>iP a0 C G I J t.1 t.2
def dI (a0:S79) (a1:(List S61)) (G:S77):Option (S46×Int×S79×S77) :=
  (tA a1 a0.f1).bind λz=>(if (z.2 != 0)=true then (some ((⟨[],0,0,0,0⟩:S46),z.2,a0,G)) else ((sC z.1).bind λI=>((gX I.1).bind λC=>((at_ a1 0).bind λJ=>((sJ C.1 C.2).bind λN=>(kJ a0 a1 G z C N J.f2))))))
def eQ (a1:Int) (z:(List S98)) (C:Int) (G:Int) (I:Bool) (J:Int) (N:Int) (S:(List S46)):Option (Int×S79×S77) :=
  some (a1,(⟨(),N,S⟩:S79),(⟨z,C,G,I,J⟩:S77))
def eR (a0:S79) (a1:Int) (C:S77) (G:Bool):Option (Int×S79×S77) :=
  if G=true then ((dA a0 C).bind λz=>(if (z.1 != 0)=true then (some (z.1,z.2.1,z.2.2)) else (eQ a1 z.2.2.f0 z.2.2.f1 z.2.2.f2 z.2.2.f3 z.2.2.f4 z.2.1.f1 z.2.1.f2))) else (eQ a1 C.f0 C.f1 C.f2 C.f3 C.f4 a0.f1 a0.f2)
def dD (a0:S79) (a1:Int) (z:S77):Option (Int×S79×S77) :=
  if (a1 != 0)=true then (eR a0 a1 z (a1 != 9)) else (eR a0 a1 z false)
def eG (C:(List S98)) (G:Int) (I:Int) (J:Bool) (N:Int) (S:Int) (U:(List S46)) (X:Int):Option (Int×S79×S77) :=
  (dD (⟨(),S,U⟩:S79) X (⟨C,G,I,J,N⟩:S77)).bind λz=>(some (z.1,z.2.1,z.2.2))
def eE (a1:(List S61)) (I:S77) (J:Int) (G:(List S46)) (S:Bool):Option (Int×S79×S77) :=
  if S=true then (some (7,(⟨(),J,G⟩:S79),I)) else (if (decide (250<=(G.length:Int)))=true then (some (2,(⟨(),J,G⟩:S79),I)) else ((dI (⟨(),J,G⟩:S79) a1 I).bind λz=>(if (z.2.1==0)=true then ((bH z.2.2.1.f2).bind λN=>(chk (N.length+[z.1].length<=140737488355328 / 48) ((cV z.2.2.1 (N++[z.1]) z.2.2.2).bind λC=>(eG C.2.2.f0 C.2.2.f1 C.2.2.f2 C.2.2.f3 C.2.2.f4 C.2.1.f1 C.2.1.f2 C.1)))) else (eG z.2.2.2.f0 z.2.2.2.f1 z.2.2.2.f2 z.2.2.2.f3 z.2.2.2.f4 z.2.2.1.f1 z.2.2.1.f2 z.2.1))))
def bU (a0:S79) (a1:(List S61)) (C:S77):Option (Int×S79×S77) :=
  if (decide (0<(a1.length:Int)))=true then ((at_ a1 0).bind λG=>((eV a0).bind λz=>(eE a1 C z.2.f1 z.2.f2 (G.f0 != z.1)))) else (eE a1 C a0.f1 a0.f2 false)
def pA (a0:S79) (z:S77) (C:(List S61)) (G:Int):Option ((List S61)×Int×Int×S79×S77) :=
  some (C,G,0,a0,z)
def mX (a0:S79) (z:S77) (C:(List S61)) (G:Int):Option ((List S61)×Int×Int×S79×S77) :=
  pA a0 z C G
def fP (z:Int) (C:(List S61)) (G:Int):Option (((List S61)×Int×Int)⊕(((List S61)×Int)⊕((List S61)×Int×Int×S79×S77))) :=
  ltt (IntKind.i64.wrap (z+1)) λI=>(some (.inl (C,G,I)))
def fR (a0:S79) (a1:S26) (C:S77) (G:(List S61)) (I:Int) (J:Int) (N:((Option S128)×Int)) (S:Bool):Option (((List S61)×Int×Int)⊕(((List S61)×Int)⊕((List S61)×Int×Int×S79×S77))) :=
  if S=true then (some (.inr (.inr ([],0,3,a0,C)))) else ((kU N.1 a1).bind λz=>(if (z.2.2 != 0)=true then (some (.inr (.inr ([],0,z.2.2,a0,C)))) else (chk (G.length+z.1.length<=140737488355328 / 48) (ltt (IntKind.i64.wrap (I+z.2.1)) λU=>(fP J (G++z.1) U)))))
def cU (a0:S79) (a1:S26) (G:S77) (J:(List S61)) (N:Int) (I:Int):Option (((List S61)×Int×Int)⊕(((List S61)×Int)⊕((List S61)×Int×Int×S79×S77))) :=
  if (decide (I<(a0.f2.length:Int)))=true then ((at_ a0.f2 I).bind λz=>(ltt (IntKind.u64.wrap (z.f2 - 1)) λX=>((jV a1 (⟨0,0,z.f1,X,z.f3,z.f4,[],[]⟩:S90)).bind λY=>(if (!Y)=true then (fP I J N) else ((jT (some G) z.f0).bind λS=>(if (S.2 != 0)=true then (some (.inr (.inr ([],0,S.2,a0,G)))) else ((sC S.1).bind λC=>(if (C.2 != 0)=true then (some (.inr (.inr ([],0,C.2,a0,G)))) else ((gX C.1).bind λU=>(if (U.1 != z.f1)=true then (fR a0 a1 G J N I C true) else (if (U.2 != z.f2)=true then (fR a0 a1 G J N I C true) else ((mJ C.1).bind λa3=>(fR a0 a1 G J N I C (a3 != a0.f1)))))))))))))) else (some (.inr (.inl (J,N))))
def kQ (a0:S79) (a1:S26) (z:S77):Option ((List S61)×Int×Int×S79×S77) :=
  (loop (λs=>cU a0 a1 z s.1 s.2.1 s.2.2) ([],0,0)).bind λt=>match t with | (.inl t)=>mX a0 z t.1 t.2 | (.inr t)=>some t
def cM (C:(List S98)) (G:Int) (I:Int) (J:Bool) (N:Int) (S:Int) (U:(List S46)) (X:Int):Option (Int×S79×S77) :=
  (dD (⟨(),S,U⟩:S79) X (⟨C,G,I,J,N⟩:S77)).bind λz=>(some (z.1,z.2.1,z.2.2))
def cN (C:(List S98)) (G:Int) (I:Int) (J:Bool) (N:Int) (S:Int) (U:(List S46)) (X:Int):Option (Int×S79×S77) :=
  if (X==0)=true then ((dA (⟨(),S,U⟩:S79) (⟨C,G,I,J,N⟩:S77)).bind λz=>(cM z.2.2.f0 z.2.2.f1 z.2.2.f2 z.2.2.f3 z.2.2.f4 z.2.1.f1 z.2.1.f2 z.1)) else (cM C G I J N S U X)
def iX (a0:S79) (a1:Int) (I:S77) (a4:(List UInt8)) (J:Int) (a5:Int) (a6:Int) (a7:Int) (a8:(List UInt8)) (a9:Int) (N:Int) (b3:Int) (b4:Int):Option (Int×S79×S77) :=
  ltt (IntKind.u64.wrap (N - J)) λS=>(if (decide (1024<S))=true then (some (2,a0,I)) else ((kQ a0 (⟨J,N,-1099511627776,1099511627776⟩:S26) I).bind λG=>(if (G.2.2.1 != 0)=true then (some (G.2.2.1,G.2.2.2.1,G.2.2.2.2)) else ((dI G.2.2.2.1 G.1 G.2.2.2.2).bind λz=>(if (z.2.1==0)=true then ((kX z.2.2.1.f2 0 a1).bind λU=>(ltt (IntKind.i64.wrap (a1+2)) λX=>((kX z.2.2.1.f2 X (z.2.2.1.f2.length:Int)).bind λY=>((aEu U [z.1] Y).bind λa3=>((cV z.2.2.1 a3 z.2.2.2).bind λC=>(cN C.2.2.f0 C.2.2.f1 C.2.2.f2 C.2.2.f3 C.2.2.f4 C.2.1.f1 C.2.1.f2 C.1)))))) else (cN z.2.2.2.f0 z.2.2.2.f1 z.2.2.2.f2 z.2.2.2.f3 z.2.2.2.f4 z.2.2.1.f1 z.2.2.1.f2 z.2.1))))))
def eC (a0:S79) (a1:Int) (G:S77) (I:Bool):Option (Int×S79×S77) :=
  if I=true then (some (1,a0,G)) else ((at_ a0.f2 a1).bind λz=>(ltt (IntKind.i64.wrap (a1+1)) λJ=>((at_ a0.f2 J).bind λC=>(iX a0 a1 G z.f0 z.f1 z.f2 z.f3 z.f4 C.f0 C.f1 C.f2 C.f3 C.f4))))
def bO (a0:S79) (a1:Int) (z:S77):Option (Int×S79×S77) :=
  if (decide (a1<0))=true then (eC a0 a1 z true) else (ltt (IntKind.i64.wrap ((a0.f2.length:Int) - 1)) λC=>(eC a0 a1 z (decide (C<=a1))))
end
end Go.Proofs.YtdkpjpoajlmmfaaGreatDoor.M
