/- Texts of the claim, joined: what it uses of Vb, Dst, Mst, Dev, Mev, Del, Mel. -/
import Derived.Test.YtnefioccdkmegaaGreatDoorZd
namespace Go.Proofs.YtnefioccdkmegaaGreatDoor.M
open Go Go.RowKit Go.Proofs.YtnefioccdkmegaaGreatDoor.E
set_option linter.unusedVariables false
theorem aDz {r w:World} {L:List HP} {A:Option Addr} {n c:Nat} (hS:SH r L w) :
  Ret Tryz.prog 87 #[.slice A n c] w fun v w'=>∃ g,v=.func (.func 114) #[] #[.pointer (some ⟨g,0,none⟩)]∧SH r (blk g 37 [.slice A n c]::L) w':=by
 refine enter Tryz.func87 rfl Tryz.ntmps87 [(0,_)] rfl (by simp) ?_
 intro ac hA Qf hQ hQn
 refine wp_seq_k fun K1 hK1=>?_
 refine aC ?_
 refine aFs hA hS (fun g ac w hS hA=>?_) rfl rfl rfl rfl rfl rfl
 refine kX hA (fun ac hA=>?_) rfl rfl rfl rfl rfl
 refine wpList_nil ?_
 refine hK1 _ _ ?_
 refine wp_seq_k fun K2 hK2=>?_
 refine aC ?_
 refine jC hA (mL rfl (rR (vals:=#[]) hA rfl) (rR (vals:=#[.pointer (some ⟨g,0,none⟩)]) hA rfl)) (fun ac hA=>?_) rfl rfl rfl
 refine kX hA (fun ac hA=>?_) rfl rfl rfl rfl rfl
 refine wpList_nil ?_
 refine hK2 _ _ ?_
 refine wp_ret ?_
 refine hQ _ _ ?_
 refine lv Tryz.results87 hA rfl ?_
 exact⟨g,rfl,hS⟩
theorem aDw {r w:World} {L:List HP} (xs:List (List UInt8)) {g:Nat} {A:Option Addr} {n c:Nat} {y:List (List UInt8)} (hF:oU xs=some y) (ha:RdL L kS A n c xs) (hS:SH r (blk g 37 [.slice A n c]::L) w) :
  Ret Tryz.prog 86 #[.func (.func 114) #[] #[.pointer (some ⟨g,0,none⟩)]] w fun v w'=>∃ (A':Option Addr) (n' c':Nat),v=.slice A' n' c'∧SH r (own kS 9 A' n' c' y::L) w':=by
 obtain⟨hsz,hF⟩:=aB hF
 cases hF
 obtain⟨S1,S2,h1,h2,hd,hA,hL⟩:=hS.head
 have hg:=hA.2
 have hgl:g<w.heap.size:=(Array.getElem?_eq_some_iff.1 hg).1
 have hln:=ha.ln
 subst hln
 refine Calls.mono (aGh g w A c xs hsz hgl (by simp [World.cell?,hg]) fun hpos=>?_) ?_
 ·obtain⟨ad,e,hr⟩:=ha.rd w S2 hL hpos
  have hc:∀ j x,xs[j]?=some x→w.cell? (ad.add j)=some (encStr x):=fun j x hx=>by
   obtain⟨cs,hV,h3⟩:=hr j x hx
   have hV':cs=[str x]:=hV
   subst hV'
   have:=h3 0 (str x) rfl
   rw [show j * kS.sz+0=j from by show j * 1+0=j; omega] at this
   exact this
  obtain⟨x,hx⟩:∃ x,xs[0]?=some x:=⟨_,List.getElem?_eq_getElem hpos⟩
  have h0:=hc 0 x hx
  obtain⟨b,off,sp⟩:=ad
  have hsp:sp=none:=by simpa [Addr.add] using World.cell?_spot h0
  subst hsp
  refine⟨b,off,e,?_,fun j x hx=>?_⟩
  ·have:w.cell? ⟨b,off,none⟩=some (encStr x):=by simpa [Addr.add] using h0
   unfold World.cell? at this
   split at this
   ·rename_i hq; exact (Array.getElem?_eq_some_iff.1 hq).1
   ·cases this
  ·have:=hc j x hx
   unfold Addr.add at this
   split at this
   ·rename_i hj; subst hj; exact this
   ·exact this
 ·rintro ev w' ⟨v,rfl,hr,_,hb⟩
  obtain⟨A',n',c',rfl,hS'⟩:=hS.tail.newrow (d:=kS) (xs:=xs.mergeSort fun x y=>decide (x≤y)) hb (by rw [List.length_mergeSort]; exact hr) (aK7 _)
  exact⟨_,rfl,A',n',c',rfl,hS'⟩
theorem aC0 {r w:World} {L:List HP} (xs:List (List UInt8)) {A:Option Addr} {n c:Nat} {y:List (List UInt8)} (hF:slices_Compact_string xs=some y) (hS:SH r (own kS 9 A n c xs::L) w) :
  Ret Tryz.prog 85 #[.slice A n c] w fun v w'=>∃ (A':Option Addr) (n' c':Nat),v=.slice A' n' c'∧SH r (own kS 9 A' n' c' y::L) w':=by
 cases hF
 obtain⟨S1,S2,h1,h2,hd,hA,hL⟩:=hS.head
 obtain⟨hn,⟨inner,hLy,ho⟩,hg⟩:=hA
 subst hn
 have hle:=zH (d:=kS) (e:=9) ⟨rfl,⟨inner,hLy,ho⟩,hg⟩
 obtain rfl:=aG4 hLy
 rcases ho.2 with ⟨hv,h0⟩ | ⟨g,cap,cur,hv,hg0,hh,hnc,hcm,hs,ht⟩
 ·injection hv with e1 e2 e3
  subst e1; subst e3
  have hx:xs=[]:=List.eq_nil_of_length_eq_zero h0
  subst hx
  have cC:=Any.slices_Compact_string_empty Tryz.compactL none 0 w
  change Calls Tryz.prog 85 _ _ _ at cC
  refine cC.mono ?_
  rintro ev w' ⟨rfl,rfl⟩
  exact⟨_,rfl,none,0,0,rfl,hS⟩
 ·injection hv with e1 e2 e3
  subst e1; subst e3
  have hH:Go.Sort.Holds encStr w g 0 xs.toArray:=holds_of_block hh (by rw [show xs.length * kS.sz=xs.length from by show _ * 1=_; omega] at ht; exact ht)
  have cC:=Any.slices_Compact_string Tryz.compactL g 0 c xs w hH (by unfold maxLen at hcm; omega) hnc
  change Calls Tryz.prog 85 _ _ _ at cC
  refine cC.mono ?_
  rintro ev w' ⟨rfl,q,rfl⟩
  have hcl:(Lib.compact xs).length≤xs.length:=aDb xs
  refine⟨_,rfl,some ⟨g,0,none⟩,(Lib.compact xs).length,c,rfl,?_⟩
  have hr:=ownsRow_sorted (w:=w) (base:=0) (n:=q) (os:=#[]) (ss:=xs) (ts:=Lib.compact xs++List.replicate (xs.length - (Lib.compact xs).length) []) (by simp; omega) (Nat.zero_le _) hh hnc hcm hs
  rw [Go.Sort.grow_empty] at hr
  have hgb:=grownBy_sorted (w:=w) (g:=g) (n:=q) (os:=#[]) (Lib.compact xs++List.replicate (xs.length - (Lib.compact xs).length) ([]:List UInt8)).toArray
  rw [Go.Sort.grow_empty] at hgb
  obtain⟨q1,q2,q3,q4,q5⟩:=hgb
  refine hS.upd (Ls:=[own kS 9 (some ⟨g,0,none⟩) (Lib.compact xs).length c (Lib.compact xs)]) h1 h2 hd hL q1 q2 q3 q4 (fun k hk hnk=>q5 k hk fun e=>hnk (by cases e; exact hg g rfl)) fun S hSS _ _=>?_
  refine⟨S,fun _=>False,fun k hk=>hk,fun k hk=>hk.elim,fun k _ hk=>hk,⟨rfl,⟨_,aK7 _,?_⟩,fun k hk=>by cases hk; exact hSS g (hg g rfl)⟩,trivial⟩
  refine⟨by simp [kS],?_⟩
  rcases hr.2 with ⟨hv2,_⟩ | ⟨g2,cap2,cur2,hv2,_,hh2,hnc2,hcm2,hs2,ht2⟩
  ·cases hv2
  ·injection hv2 with e1 e2 e3
   injection e1 with e1
   injection e1 with e1
   subst e1; subst e3
   refine .inr ⟨g,c,cur2,rfl,Nat.zero_le _,hh2,by omega,hcm2,hs2,?_⟩
   have h5:=congrArg (List.take (Lib.compact xs).length) ht2
   rw [List.take_take,Nat.min_eq_left (by omega),List.map_append,List.take_left' (by simp)] at h5
   rw [show (Lib.compact xs).length * kS.sz=(Lib.compact xs).length from by show _ * 1=_; omega]
   exact h5
noncomputable section
set_option linter.unusedSimpArgs false
def nB (a0:(List UInt8)):Option (Bool) :=
  some (!(a0==a0))
def mS (a0:(List UInt8)):Option (Bool) :=
  some (!(a0==a0))
def nU (a0:(List UInt8)) (a1:(List UInt8)):Option (Bool) :=
  (nB a0).bind fun h=>(if h=true then ((nB a1).bind fun z=>(if (!z)=true then (some true) else (some (Op.bytesLess a0 a1)))) else (some (Op.bytesLess a0 a1)))
def eD (a0:(List (List UInt8))) (a1:(List UInt8)) (h:Int):Option (Int×Bool) :=
  if (decide (h<(a0.length:Int)))=true then ((at_ a0 h).bind fun z=>(if (z==a1)=true then (some (h,true)) else ((mS z).bind fun C=>(if C=true then ((mS a1).bind fun G=>(some (h,G))) else (some (h,false)))))) else (some (h,false))
def dQ (a0:(List (List UInt8))) (a1:(List UInt8)) (h:Int):Option (Int×Bool) :=
  eD a0 a1 h
def cL (h:Int) (z:Int):Option ((Int×Int)⊕((Int))) :=
  some (.inl (h,z))
def bL (a0:(List (List UInt8))) (a1:(List UInt8)) (h:Int) (z:Int):Option ((Int×Int)⊕((Int))) :=
  if (decide (h<z))=true then (ltt (IntKind.i64.wrap (h+z)) fun G=>(ltt (IntKind.u64.wrap G) fun H=>(ltt (bS .u64 H 1) fun I=>(ltt (IntKind.i64.wrap I) fun C=>((at_ a0 C).bind fun J=>((nU J a1).bind fun S=>(if S=true then (ltt (IntKind.i64.wrap (C+1)) fun U=>(cL U z)) else (cL h C)))))))) else (some (.inr (h)))
def dM (a0:(List (List UInt8))) (a1:(List UInt8)):Option (Int×Bool) :=
  (loop (fun s=>bL a0 a1 s.1 s.2) (0,(a0.length:Int))).bind fun t=>dQ a0 a1 t
def rH (h:(List Int)) (C:(List Int)):Option ((List Int)) :=
  (mH C).bind fun z=>(chk (h.length+z.length≤140737488355328 / 1) (some (h++z)))
def oN (h:(List Int)) (z:(List Int)):Option ((List Int)) :=
  rH h z
def iN (a0:(List (List UInt8))) (G:(List (List UInt8))) (h:(List Int)) (z:Int):Option (((List Int)×Int)⊕(((List Int)))) :=
  if (decide (z<(a0.length:Int)))=true then ((at_ a0 z).bind fun H=>((dM G H).bind fun C=>(chk (h.length+[C.1].length≤140737488355328 / 8) (ltt (IntKind.i64.wrap (z+1)) fun I=>(some (.inl (h++[C.1],I))))))) else (some (.inr (h)))
def nV (a0:(List (List UInt8))) (h:(List (List UInt8))) (z:(List Int)):Option ((List Int)) :=
  (loop (fun s=>iN a0 h s.1 s.2) ([],0)).bind fun t=>oN z t
def oM (a0:(List (List UInt8))) (h:(List (List UInt8))) (z:(List Int)):Option ((List Int)) :=
  nV a0 h z
def iK (z:(List (List UInt8))) (C:(List Int)) (h:Int):Option (((List Int)×Int)⊕(((List Int)))) :=
  if (decide (h<(z.length:Int)))=true then ((at_ z h).bind fun G=>((pF C G).bind fun H=>(ltt (IntKind.i64.wrap (h+1)) fun I=>(some (.inl (H,I)))))) else (some (.inr (C)))
def sJ (a0:(List (List UInt8))):Option ((List Int)) :=
  (oU a0).bind fun z=>((slices_Compact_string z).bind fun h=>(ltt (IntKind.u64.wrap (h.length:Int)) fun C=>((kQ [] C).bind fun G=>((loop (fun s=>iK h s.1 s.2) (G,0)).bind fun t=>oM a0 h t))))
end
set_option maxRecDepth 100000
set_option maxHeartbeats 4000000
set_option linter.unusedSimpArgs false
section
variable {r:World} {L:List HP} {w:World} {Z:Nat→Prop} {wz:World}
theorem wM {a0 y} (G:nB a0=some y) (X:SH r (L) w) :
  Ret Tryz.prog 134 #[str a0] w fun v w'=>v=.bool y∧SH r (L) w':=by
 refine enter Tryz.func134 rfl Tryz.ntmps134 [(0,_)] rfl (by simp) ?_
 intro U J Qf hQ hQn
 unfold nB at G
 refine nz 1 J rfl fun U J=>ws fun z h=>xk 2 J rfl fun U J=>x_v J (aM3 rfl (J.ev rfl) (J.ev rfl)) rfl fun U J=>x_m J rfl fun U J=>wn (h _ _ ?_)
 cases G
 refine wp_ret (hQ _ _ ?_)
 exact lv Tryz.results134 J rfl ⟨rfl,X⟩
theorem tI {a0 y} (G:mS a0=some y) (X:SH r (L) w) :
  Ret Tryz.prog 116 #[str a0] w fun v w'=>v=.bool y∧SH r (L) w':=by
 refine enter Tryz.func116 rfl Tryz.ntmps116 [(0,_)] rfl (by simp) ?_
 intro U J Qf hQ hQn
 unfold mS at G
 refine nz 1 J rfl fun U J=>ws fun z h=>xk 2 J rfl fun U J=>x_v J (aM3 rfl (J.ev rfl) (J.ev rfl)) rfl fun U J=>x_m J rfl fun U J=>wn (h _ _ ?_)
 cases G
 refine wp_ret (hQ _ _ ?_)
 exact lv Tryz.results116 J rfl ⟨rfl,X⟩
theorem aB9 {a0 a1 y} (G:nU a0 a1=some y) (X:SH r (L) w) :
  Ret Tryz.prog 115 #[str a0,str a1] w fun v w'=>v=.bool y∧SH r (L) w':=by
 refine enter Tryz.func115 rfl Tryz.ntmps115 [(0,_),(1,_)] rfl (by simp) ?_
 intro U J Qf hQ hQn
 unfold nU at G
 refine nz 1 J rfl fun U J=>ws fun S C=>xk 1 J rfl fun U J=>?_
 obtain⟨Y,H,G⟩:=bnd G
 refine x_c aUy J rfl (wM H X :) fun v U w hR J=>?_
 obtain⟨rfl,X⟩:=hR
 refine x_m J rfl fun U J=>bcG G (fun h G=>?_) fun h G=>?_
 ·refine xg 1 h J rfl rfl fun U J=>aM h J ?_ rfl
  obtain⟨a2,I,G⟩:=bnd G
  refine x_c aUy J rfl (wM I X :) fun v U w hR J=>?_
  obtain⟨rfl,X⟩:=hR
  refine xg 3 h J rfl rfl fun U J=>bcG G (fun z G=>?_) fun z G=>?_
  ·refine ng 5 z J rfl rfl fun U J=>?_
   cases G
   refine C _ _ (wp_ret ?_)
   refine hQ _ _ (lv Tryz.results115 J rfl ?_)
   exact⟨rfl,X⟩
  refine xg 2 z J rfl rfl fun U J=>aM z J ?_ rfl
  refine x_v J (aKv rfl (J.ev rfl) (J.ev rfl)) rfl fun U J=>ng 2 z J rfl rfl fun U J=>?_
  cases G
  refine C _ _ (wp_ret ?_)
  refine hQ _ _ (lv Tryz.results115 J rfl ?_)
  exact⟨rfl,X⟩
 refine xg 5 h J rfl rfl fun U J=>aM rfl J ?_ rfl
 refine x_m J rfl fun U J=>aM rfl J ?_ rfl
 refine x_m J rfl fun U J=>aM rfl J ?_ rfl
 refine x_v J (aKv rfl (J.ev rfl) (J.ev rfl)) rfl fun U J=>cA rfl J (fun U J=>?_) rfl
 refine x_m J rfl fun U J=>wn (C _ _ ?_)
 cases G
 refine wp_ret (hQ _ _ ?_)
 exact lv Tryz.results115 J rfl ⟨rfl,X⟩
theorem rA {a0 a1 A0 n0 c0 y} (G:dM a0 a1=some y) (X:SH r (L) w) (ha0:RdL L kS A0 n0 c0 a0) :
  Ret Tryz.prog 89 #[.slice A0 n0 c0,str a1] w fun v w'=>v=.tuple #[(.int .i64 y.1),(.bool y.2)]∧SH r (L) w':=by
 refine enter Tryz.func89 rfl Tryz.ntmps89 [(0,_),(1,_)] rfl (by simp) ?_
 intro U J Qf hQ hQn
 unfold dM at G
 refine nz 2 J rfl fun U J=>ws fun d9 a9=>xk 1 J rfl fun U J=>bC lL (X.rdl 0 ha0 rfl).2.1 J (fun U J=>?_) rfl
 refine x_m J rfl fun U J=>wn (a9 _ _ ?_)
 refine nz 3 J rfl fun U J=>wp_seq_k fun e0 b3=>aA fun a5 b4=>?_
 have hb1:∀Y,eD a0 a1 Y=some y→∀U w,FR 54 [] U [(0,.slice A0 n0 c0),(1,str a1),(6,.int .i64 (a0.length:Int)),(7,.int .i64 Y)]→SH r (L) w→a5 U w:=by
  intro Y G U w J X
  unfold eD at G
  refine b4 _ _ (b3 _ _ ?_)
  refine ws fun e1 I=>xk 5 J rfl fun U J=>bcG G (fun h G=>?_) fun h G=>?_
  ·refine xg 2 h J rfl rfl fun U J=>aM h J ?_ rfl
   obtain⟨e2,S,G⟩:=bnd G
   refine fR lL sz9 (X.rdl 0 ha0 rfl) S J (fun U J=>?_) rfl
   refine aM h J ?_ rfl
   obtain⟨cs,hV,b5⟩:=el (X.rdl 0 ha0 rfl) S
   obtain rfl:=hV
   refine aK uu9 (b5 0 _ rfl) J (fun U J=>?_) rfl
   refine xg 1 h J rfl rfl fun U J=>aM h J ?_ rfl
   refine x_v J (aT7 rfl (J.ev rfl) (J.ev rfl)) rfl fun U J=>xg 1 h J rfl rfl fun U J=>bcG G (fun z G=>?_) fun z G=>?_
   ·refine xg 9 z J rfl rfl fun U J=>aM h J ?_ rfl
    refine xg 1 z J rfl rfl fun U J=>ng 3 h J rfl rfl fun U J=>?_
    cases G
    refine I _ _ (wp_ret ?_)
    refine hQ _ _ (lv2 Tryz.results89 J rfl rfl ?_)
    exact⟨rfl,X⟩
   refine xg 2 z J rfl rfl fun U J=>aM z J ?_ rfl
   refine fR lL sz9 (X.rdl 0 ha0 rfl) S J (fun U J=>?_) rfl
   refine aM z J ?_ rfl
   obtain⟨cs,hV,b6⟩:=el (X.rdl 0 ha0 rfl) S
   obtain rfl:=hV
   refine aK uu9 (b6 0 _ rfl) J (fun U J=>?_) rfl
   refine aM z J ?_ rfl
   obtain⟨e3,b7,G⟩:=bnd G
   refine x_c aU7 J rfl (tI b7 X :) fun v U w hR J=>?_
   obtain⟨rfl,X⟩:=hR
   refine xg 1 z J rfl rfl fun U J=>bcG G (fun C G=>?_) fun C G=>?_
   ·refine xg 1 C J rfl rfl fun U J=>aM C J ?_ rfl
    obtain⟨e4,b8,G⟩:=bnd G
    refine x_c aU7 J rfl (tI b8 X :) fun v U w hR J=>?_
    obtain⟨rfl,X⟩:=hR
    refine aM z J ?_ rfl
    refine xg 1 C J rfl rfl fun U J=>aM h J ?_ rfl
    refine xg 1 z J rfl rfl fun U J=>ng 3 h J rfl rfl fun U J=>?_
    cases G
    refine I _ _ (wp_ret ?_)
    refine hQ _ _ (lv2 Tryz.results89 J rfl rfl ?_)
    exact⟨rfl,X⟩
   refine xg 2 C J rfl rfl fun U J=>aM z J ?_ rfl
   refine xg 1 C J rfl rfl fun U J=>aM h J ?_ rfl
   refine xg 1 z J rfl rfl fun U J=>ng 3 h J rfl rfl fun U J=>?_
   cases G
   refine I _ _ (wp_ret ?_)
   refine hQ _ _ (lv2 Tryz.results89 J rfl rfl ?_)
   exact⟨rfl,X⟩
  refine ng 20 h J rfl rfl fun U J=>?_
  cases G
  refine I _ _ (wp_ret ?_)
  refine hQ _ _ (lv2 Tryz.results89 J rfl rfl ?_)
  exact⟨rfl,X⟩
 obtain⟨b9,c3,G⟩:=bnd G
 have c4:∀H,(H)=b9→∀U w,FR 54 [] U [(0,.slice A0 n0 c0),(1,str a1),(6,.int .i64 (a0.length:Int)),(7,.int .i64 H)]→SH r (L) w→a5 U w:=by
  intro H ht U w J X
  subst ht
  replace G:dQ a0 a1 H=some y:=G
  unfold dQ at G
  exact hb1 H G U w (J.sub _ rfl) X
 refine aE c3 (fun s U w=>FR 54 [] U [(0,.slice A0 n0 c0),(1,str a1),(6,.int .i64 (a0.length:Int)),(7,.int .i64 s.1),(8,.int .i64 s.2)]∧SH r (L) w) ⟨J.sub _ rfl,X⟩ ?_
 intro e5 c5 a6 G c6 c7 U w hLab
 obtain⟨a2,a7⟩:=c5
 replace G:bL a0 a1 a2 a7=some a6:=G
 unfold bL at G
 try dsimp only at hLab
 obtain⟨J,X⟩:=hLab
 refine wp_seq_k fun e6 c8=>nz 3 J rfl fun U J=>bH J G rfl (fun c9 G=>?_) fun c9 G=>?_
 ·refine wp_skip (c8 _ _ ?_)
  refine aA fun d0 d1=>?_
  have hb2:∀a3 a4,cL a3 a4=some a6→∀U w,FR 54 [] U [(0,.slice A0 n0 c0),(1,str a1),(6,.int .i64 (a0.length:Int)),(7,.int .i64 a3),(8,.int .i64 a4)]→SH r (L) w→d0 U w:=by
   intro a3 a4 G U w J X
   unfold cL at G
   cases G
   exact d1 _ _ ⟨_,c6 _ rfl,J.sub _ rfl,X⟩
  refine ws fun e7 d2=>xk 2 J rfl fun U J=>x_l G J rfl fun e8 _ U J G=>iQ G J (aX uu3 aDy rfl (J.ev rfl)) rfl fun e9 _ U J G=>iQ G J (rW rfl (J.ev rfl) (J.ev rfl) (by decide)) rfl fun f2 _ U J G=>iQ G J (aX aDy uu3 rfl (J.ev rfl)) rfl fun d3 _ U J G=>x_m J rfl fun U J=>wn (d2 _ _ ?_)
  refine ws fun f3 d4=>xk 2 J rfl fun U J=>?_
  obtain⟨f4,a8,G⟩:=bnd G
  refine fR lL sz9 (X.rdl 0 ha0 rfl) a8 J (fun U J=>?_) rfl
  obtain⟨cs,hV,d5⟩:=el (X.rdl 0 ha0 rfl) a8
  obtain rfl:=hV
  refine aK uu9 (d5 0 _ rfl) J (fun U J=>?_) rfl
  refine x_m J rfl fun U J=>?_
  obtain⟨f5,d6,G⟩:=bnd G
  refine x_c aZ5 J rfl (aB9 d6 X :) fun v U w hR J=>?_
  obtain⟨rfl,X⟩:=hR
  refine wn (d4 _ _ ?_)
  refine bH J G rfl (fun d7 G=>?_) fun d7 G=>?_
  ·refine aC (x_m J rfl fun U J=>?_)
   exact x_l G J rfl fun d8 _ U J G=>x_m J rfl fun U J=>wpList_nil (hb2 d8 a7 G U w (J.sub _ rfl) X)
  refine aC (nk 2 J rfl fun U J=>?_)
  exact hb2 a2 d3 G U w (J.sub _ rfl) X
 cases G
 exact wp_exit (c4 a2 (c7 _ rfl) U w (J.sub _ rfl) X)
theorem aE1 {a0 A0 n0 c0 y} (G:sJ a0=some y) (X:SH r (L) w) (ha0:RdL L kS A0 n0 c0 a0) :
  Ret Tryz.prog 67 #[.slice A0 n0 c0] w fun v w'=>∃ (B0:Option Addr) (m0:Nat) (d0:Nat),v=.slice B0 m0 d0∧SH r (own (kI .u8) 5 B0 m0 d0 y::L) w':=by
 refine enter Tryz.func67 rfl Tryz.ntmps67 [(0,_)] rfl (by simp) ?_
 intro U J Qf hQ hQn
 unfold sJ at G
 refine nz 1 J rfl fun U J=>ws fun j5 d4=>xk 1 J rfl fun U J=>x_c bAz J rfl (aDz (L:=L) (A:=A0) (n:=n0) (c:=c0) X) fun v U w hR J=>?_
 obtain⟨j6,rfl,X⟩:=hR
 obtain⟨d5,d6,G⟩:=bnd G
 refine x_c bBh J rfl (aDw (L:=L) a0 d6 (RdL.sfx 0 rfl ha0) X) fun v U w hR J=>?_
 obtain⟨j7,j8,j9,rfl,X⟩:=hR
 obtain⟨h,d7,G⟩:=bnd G
 refine x_c bA1 J rfl (aC0 (L:=L) d5 d7 X) fun v U w hR J=>?_
 obtain⟨z,C,H,rfl,X⟩:=hR
 refine x_m J rfl fun U J=>wn (d4 _ _ ?_)
 refine ws fun k0 d8=>xk 1 J rfl fun U J=>bC lL (X.rd 0 rfl).2.1 J (fun U J=>?_) rfl
 refine iQ G J (aX uu3 nH rfl (J.ev rfl)) rfl fun k1 _ U J G=>?_
 replace X:=SH.nil_own (d:=(kI .u8)) (e:=5) X
 obtain⟨k2,d9,G⟩:=bnd G
 refine x_c aOv J rfl (qU d9 X :) fun v U w hR J=>?_
 obtain⟨e0,e1,e2,rfl,X⟩:=hR
 refine x_m J rfl fun U J=>wn (d8 _ _ ?_)
 refine wp_seq_k fun k3 e3=>ws fun k4 e4=>xk 1 J rfl fun U J=>bC lL (X.rd 1 rfl).2.1 J (fun U J=>?_) rfl
 refine x_m J rfl fun U J=>wn (e4 _ _ ?_)
 refine aA fun c7 e5=>?_
 have hb1:∀a1,nV a0 h a1=some y→∀I S Y U w,FR 51 [] U [(0,.slice A0 n0 c0),(3,.slice z C H),(4,.slice I S Y)]→SH r (own kS 9 z C H h::own (kI .u8) 5 I S Y a1::L) w→c7 U w:=by
  intro a1 G I S Y U w J X
  unfold nV at G
  refine e5 _ _ (e3 _ _ ?_)
  refine nz 1 J rfl fun U J=>wp_seq_k fun k5 e6=>ws fun k6 e7=>xk 1 J rfl fun U J=>bC lL (X.rdl 2 ha0 rfl).2.1 J (fun U J=>?_) rfl
  refine x_m J rfl fun U J=>wn (e7 _ _ ?_)
  refine aA fun c8 e8=>?_
  have hb2:∀c3,rH a1 c3=some y→∀c4 c5 c6 U w,FR 51 [] U [(4,.slice I S Y),(7,.slice c4 c5 c6)]→SH r (own (kI .u8) 5 I S Y a1::own (kI .i64) 2 c4 c5 c6 c3::L) w→c8 U w:=by
   intro c3 G c4 c5 c6 U w J X
   unfold rH at G
   refine e8 _ _ (e6 _ _ ?_)
   refine ws fun k7 e9=>xk 2 J rfl fun U J=>?_
   obtain⟨k8,f2,G⟩:=bnd G
   refine x_c aP3 J rfl (qY f2 X (RdL.own 1 rfl (X.dropN 0)) :) fun v U w hR J=>?_
   obtain⟨k9,l0,l1,rfl,X⟩:=hR
   obtain⟨f3,G⟩:=aB G
   have hr:=X.rd 0 rfl
   refine iP 1 aCn fC J X hr.1 hr.2.1 f3 rfl (fun f4 f5 f6 U w X J=>?_) rfl
   refine x_m J rfl fun U J=>wn (e9 _ _ ?_)
   replace X:=X.drop 1 |>.drop 1
   cases G
   refine wp_ret (hQ _ _ ?_)
   exact lv Tryz.results67 J rfl ⟨f4,f5,f6,rfl,X⟩
  obtain⟨f7,f8,G⟩:=bnd G
  have f9:∀a2,(a2)=f7→∀a4 a5 a6 U w,FR 51 [] U [(4,.slice I S Y),(7,.slice a4 a5 a6)]→SH r (own (kI .u8) 5 I S Y a1::own (kI .i64) 2 a4 a5 a6 a2::L) w→c8 U w:=by
   intro a2 ht a4 a5 a6 U w J X
   subst ht
   replace G:oN a1 a2=some y:=G
   unfold oN at G
   exact hb2 a2 G a4 a5 a6 U w (J.sub _ rfl) X
  replace X:=(SH.nil_own (d:=(kI .i64)) (e:=2) X).pk 2 |>.pk 2
  refine aE f8 (fun s U w=>∃a7 a8 a9,FR 51 [] U [(3,.slice z C H),(4,.slice I S Y),(7,.slice a7 a8 a9),(30,.slice A0 n0 c0),(31,.int .i64 (a0.length:Int)),(32,.int .i64 s.2)]∧SH r (own kS 9 z C H h::own (kI .u8) 5 I S Y a1::own (kI .i64) 2 a7 a8 a9 s.1::L) w) ⟨none,0,0,J.sub _ rfl,X⟩ ?_
  intro l2 g0 g1 G g2 g3 U w hLab
  obtain⟨c9,g4⟩:=g0
  replace G:iN a0 h c9 g4=some g1:=G
  unfold iN at G
  try dsimp only at hLab
  obtain⟨a7,a8,a9,J,X⟩:=hLab
  refine nz 1 J rfl fun U J=>wp_seq_k fun l3 g5=>bH J G rfl (fun g6 G=>?_) fun g6 G=>?_
  ·refine wp_skip (g5 _ _ ?_)
   refine wp_seq_k fun l4 g7=>aA fun l5 g8=>ws fun l6 g9=>?_
   obtain⟨l7,d1,G⟩:=bnd G
   refine fR lL sz9 (X.rdl 3 ha0 rfl) d1 J (fun U J=>?_) rfl
   obtain⟨cs,hV,h0⟩:=el (X.rdl 3 ha0 rfl) d1
   obtain rfl:=hV
   refine aK uu9 (h0 0 _ rfl) J (fun U J=>?_) rfl
   refine x_m J rfl fun U J=>wn (g9 _ _ ?_)
   refine ws fun l8 h1=>xk 2 J rfl fun U J=>?_
   obtain⟨b3,h2,G⟩:=bnd G
   refine x_c bBm J rfl (rA h2 X (RdL.own 0 rfl (X.dropN 0)) :) fun v U w hR J=>?_
   obtain⟨rfl,X⟩:=hR
   refine nk 5 J rfl fun U J=>h1 _ _ (aC ?_)
   refine xk 2 J rfl fun U J=>iV (d:=(kI .i64)) (e:=2) (ps:=#[(0,.int .i64 b3.1)]) (cells:=[.int .i64 b3.1]) (xs:=[b3.1]) (fun w=>by kernel_rfl) rfl ⟨[.int .i64 b3.1],_,rfl,rfl,rfl⟩ J X (fun l9 U w X J=>?_) rfl
   obtain⟨h3,G⟩:=aB G
   have hr:=X.rd 0 rfl
   refine iP 3 kY bM J X hr.1 hr.2.1 h3 rfl (fun h4 h5 h6 U w X J=>?_) rfl
   refine x_m J rfl fun U J=>wpList_nil (g8 _ _ ?_)
   refine g7 _ _ (aC ?_)
   refine x_l G J rfl fun m1 _ U J G=>x_m J rfl fun U J=>wpList_nil ?_
   replace X:=X.drop 1 |>.pk 2 |>.pk 2
   cases G
   exact⟨_,g2 _ rfl,h4,h5,h6,J.sub _ rfl,X⟩
  replace X:=X.drop 0
  cases G
  exact wp_exit (f9 c9 (g3 _ rfl) a7 a8 a9 U w (J.sub _ rfl) X)
 obtain⟨h7,h8,G⟩:=bnd G
 have h9:∀a3,(a3)=h7→∀b4 b5 b6 U w,FR 51 [] U [(0,.slice A0 n0 c0),(3,.slice z C H),(4,.slice b4 b5 b6)]→SH r (own kS 9 z C H h::own (kI .u8) 5 b4 b5 b6 a3::L) w→c7 U w:=by
  intro a3 ht b4 b5 b6 U w J X
  subst ht
  replace G:oM a0 h a3=some y:=G
  unfold oM at G
  exact hb1 a3 G b4 b5 b6 U w (J.sub _ rfl) X
 replace X:=X.pk 1
 refine aE h8 (fun s U w=>∃b7 b8 b9,FR 51 [] U [(0,.slice A0 n0 c0),(3,.slice z C H),(4,.slice b7 b8 b9),(20,.slice z C H),(21,.int .i64 (h.length:Int)),(22,.int .i64 s.2)]∧SH r (own kS 9 z C H h::own (kI .u8) 5 b7 b8 b9 s.1::L) w) ⟨e0,e1,e2,J.sub _ rfl,X⟩ ?_
 intro m2 i0 i1 G i2 i3 U w hLab
 obtain⟨d2,i4⟩:=i0
 replace G:iK h d2 i4=some i1:=G
 unfold iK at G
 try dsimp only at hLab
 obtain⟨b7,b8,b9,J,X⟩:=hLab
 refine nz 1 J rfl fun U J=>wp_seq_k fun m3 i5=>bH J G rfl (fun i6 G=>?_) fun i6 G=>?_
 ·refine wp_skip (i5 _ _ ?_)
  refine wp_seq_k fun m4 i7=>aA fun m5 i8=>ws fun m6 i9=>?_
  obtain⟨m7,d3,G⟩:=bnd G
  refine fR lL sz9 (X.rd 0 rfl) d3 J (fun U J=>?_) rfl
  obtain⟨cs,hV,j0⟩:=el (X.rd 0 rfl) d3
  obtain rfl:=hV
  refine aK uu9 (j0 0 _ rfl) J (fun U J=>?_) rfl
  refine x_m J rfl fun U J=>wn (i9 _ _ ?_)
  refine aC (xk 2 J rfl fun U J=>?_)
  replace X:=X.pk 1
  obtain⟨m8,j1,G⟩:=bnd G
  refine x_c aY4 J rfl (aAt j1 X :) fun v U w hR J=>?_
  obtain⟨j2,j3,j4,rfl,X⟩:=hR
  refine x_m J rfl fun U J=>wpList_nil (i8 _ _ ?_)
  refine i7 _ _ (aC ?_)
  refine x_l G J rfl fun m9 _ U J G=>x_m J rfl fun U J=>wpList_nil ?_
  replace X:=X.pk 1
  cases G
  exact⟨_,i2 _ rfl,j2,j3,j4,J.sub _ rfl,X⟩
 cases G
 exact wp_exit (h9 d2 (i3 _ rfl) b7 b8 b9 U w (J.sub _ rfl) X)
end
noncomputable section
set_option linter.unusedSimpArgs false
def gK:Option (Int) :=
  some (-1)
def fN:Option (Int) :=
  gK
def bP (a0:(List Int)) (a1:Int) (h:Int):Option ((Int)⊕((Unit)⊕(Int))) :=
  if (decide (h<(a0.length:Int)))=true then ((at_ a0 h).bind fun z=>(if (a1==z)=true then (some (.inr (.inr h))) else (ltt (IntKind.i64.wrap (h+1)) fun C=>(some (.inl (C)))))) else (some (.inr (.inl ())))
def fD (a0:(List Int)) (a1:Int):Option (Int) :=
  (loop (fun s=>bP a0 a1 s) (0)).bind fun t=>match t with | (.inl t)=>fN | (.inr t)=>some t
def cZ (a0:(List Int)) (a1:Int):Option (Bool) :=
  (fD a0 a1).bind fun h=>(some (decide (0≤h)))
def tM (a0:S47) (a1:Int):Option (Bool) :=
  if (decide (0≤a0.f1))=true then (if (decide (a0.f1<a1))=true then (if (decide (-1099511627776≤a0.f2))=true then (if (decide (a0.f2≤1099511627776))=true then (if (decide ((a0.f3.length:Int)≤32))=true then (some (decide (a0.f0<1099511627776))) else (some false)) else (some false)) else (some false)) else (some false)) else (some false)
def aB7 (a0:S47) (a1:Int):Option (Bool) :=
  if (decide (0≤a0.f1))=true then (if (decide (a0.f1<a1))=true then (if (decide (-1099511627776≤a0.f2))=true then (if (decide (a0.f2≤1099511627776))=true then (if (decide ((a0.f3.length:Int)≤32))=true then (some (decide (a0.f0<1099511627776))) else (some false)) else (some false)) else (some false)) else (some false)) else (some false)
def uM (h:(List Int)) (z:(List (List Int))):Option ((S157×(List (List Int)))⊕(S157×(List (List Int)))) :=
  some (.inl ((⟨h⟩:S157),z))
def sY (h:(List Int)) (z:(List (List Int))):Option ((S157×(List (List Int)))⊕(S157×(List (List Int)))) :=
  uM h z
def fL (G:(List Int)) (z:(List (List Int))) (C:Int):Option (((List Int)×(List (List Int))×Int)⊕(((List Int)×(List (List Int)))⊕((S157×(List (List Int)))⊕(S157×(List (List Int)))))) :=
  if (decide (C<5))=true then ((jB (⟨G⟩:S157) 1048576).bind fun h=>(mN h (fun h=>(chk (h.1.length≤maxLen) ((at_ z C).bind fun I=>(ltt (IntKind.i64.wrap (C+1)) fun H=>(some (.inl (h.2.f0,z.set C.toNat (stb h.1),H))))))) (fun h=>(some (.inr (.inr (.inr (h,z)))))))) else (some (.inr (.inl (G,z))))
def vP (a0:S157) (a1:(List (List Int))):Option ((S157×(List (List Int)))⊕(S157×(List (List Int)))) :=
  (loop (fun s=>fL s.1 s.2.1 s.2.2) (a0.f0,a1,0)).bind fun t=>match t with | (.inl t)=>sY t.1 t.2 | (.inr t)=>some t
def tO (a0:(List Int)) (h:(List (List Int))):Option (Bool×(List (List Int))) :=
  (vP (⟨a0⟩:S157) h).bind fun y=>(mN y (fun y=>some ((((y.1.f0.length:Int)==0),y.2))) (fun y=>some ((false,y.2))))
def wZ (h:(Int×(List Int)×Int×Int)) (z:(List S47)):Option ((List S47)×Int×Int) :=
  some (z,h.2.2.1,0)
def uR (h:(Int×(List Int)×Int×Int)) (z:(List S47)):Option ((List S47)×Int×Int) :=
  wZ h z
def kP (a2:Int) (S:((List Int)×Int)) (U:((List Int)×Int)) (X:((List Int)×Int)) (Y:((List (List UInt8))×Int)) (a0:((List Nat)×Int)) (z:(List S47)) (h:Int):Option (((List S47)×Int)⊕(((List S47))⊕((List S47)×Int×Int))) :=
  if (decide (h<(S.1.length:Int)))=true then ((at_ S.1 h).bind fun a1=>(ltt (IntKind.u64.wrap a1) fun C=>((at_ U.1 h).bind fun G=>((at_ X.1 h).bind fun H=>((at_ Y.1 h).bind fun I=>((at_ a0.1 h).bind fun J=>((tM (⟨C,G,H,I,J⟩:S47) a2).bind fun a3=>(if (!a3)=true then (some (.inr (.inr ([],0,3)))) else (chk (z.length+[(⟨C,G,H,I,J⟩:S47)].length≤140737488355328 / 48) (ltt (IntKind.i64.wrap (h+1)) fun a4=>(some (.inl (z++[(⟨C,G,H,I,J⟩:S47)],a4))))))))))))) else (some (.inr (.inl (z))))
def eX (a2:Int) (h:(Int×(List Int)×Int×Int)) (z:((List Int)×Int)) (C:((List Int)×Int)) (G:((List Int)×Int)) (H:((List (List UInt8))×Int)) (I:((List Nat)×Int)) (J:Bool):Option ((List S47)×Int×Int) :=
  if J=true then (some ([],0,3)) else ((loop (fun s=>kP a2 z C G H I s.1 s.2) ([],0)).bind fun t=>match t with | (.inl t)=>uR h t | (.inr t)=>some t)
def mM (a2:Int) (I:(Int×(List Int)×Int×Int)) (J:(List (List Int))) (S:Bool):Option ((List S47)×Int×Int) :=
  if (!S)=true then (some ([],0,3)) else ((at_ J 0).bind fun U=>((iL U).bind fun h=>((at_ J 1).bind fun X=>((iL X).bind fun z=>((at_ J 2).bind fun Y=>((iL Y).bind fun C=>((at_ J 3).bind fun a0=>((mX a0).bind fun G=>((at_ J 4).bind fun a1=>((nD a1).bind fun H=>((cZ [h.2,z.2,C.2,G.2,H.2] 3).bind fun a3=>(if a3=true then (eX a2 I h z C G H true) else (if ((z.1.length:Int) != (h.1.length:Int))=true then (eX a2 I h z C G H true) else (if ((C.1.length:Int) != (h.1.length:Int))=true then (eX a2 I h z C G H true) else (if ((G.1.length:Int) != (h.1.length:Int))=true then (eX a2 I h z C G H true) else (eX a2 I h z C G H ((H.1.length:Int) != (h.1.length:Int))))))))))))))))))
def rK (a0:(List Int)) (a1:Int) (a2:Int):Option ((List S47)×Int×Int) :=
  (xQ a0 a1).bind fun h=>(if (h.2.2.2 != 0)=true then (some ([],0,h.2.2.2)) else (if (h.1==101)=true then ((tO h.2.1 ([[],[],[],[],[]]:List (List Int))).bind fun z=>(mM a2 h z.2 z.1)) else (mM a2 h ([[],[],[],[],[]]:List (List Int)) false)))
end
section
variable {r:World} {L:List HP} {w:World} {Z:Nat→Prop} {wz:World}
theorem rN {a0 a1 A0 n0 c0 y} (G:fD a0 a1=some y) (X:SH r (L) w) (ha0:RdL L (kI .i64) A0 n0 c0 a0) :
  Ret Tryz.prog 105 #[.slice A0 n0 c0,.int .i64 a1] w fun v w'=>v=.int .i64 y∧SH r (L) w':=by
 refine enter Tryz.func105 rfl Tryz.ntmps105 [(0,_),(1,_)] rfl (by simp) ?_
 intro U J Qf hQ hQn
 unfold fD at G
 refine nz 1 J rfl fun U J=>wp_seq_k fun b9 I=>ws fun c3 S=>xk 1 J rfl fun U J=>bC aUm (X.rdl 0 ha0 rfl).2.1 J (fun U J=>?_) rfl
 refine x_m J rfl fun U J=>wn (S _ _ ?_)
 refine aA fun h Y=>?_
 have hb1:gK=some y→∀U w,FR 19 [] U []→SH r (L) w→h U w:=by
  intro G U w J X
  unfold gK at G
  refine Y _ _ (I _ _ ?_)
  refine nz 1 J rfl fun U J=>?_
  cases G
  refine wp_ret (hQ _ _ ?_)
  exact lv Tryz.results105 J rfl ⟨rfl,X⟩
 obtain⟨a2,a3,G⟩:=bnd G
 have a4:=G
 have a5:(.inl ())=a2→∀U w,FR 19 [] U []→SH r (L) w→h U w:=by
  intro ht U w J X
  subst ht
  replace G:fN=some y:=G
  unfold fN at G
  exact hb1 G U w (J.sub _ rfl) X
 refine aE a3 (fun s U w=>FR 19 [] U [(0,.slice A0 n0 c0),(1,.int .i64 a1),(7,.int .i64 (a0.length:Int)),(8,.int .i64 s)]∧SH r (L) w) ⟨J.sub _ rfl,X⟩ ?_
 intro c4 a6 a7 G a8 z U w hLab
 obtain⟨C,rfl⟩:∃ q,q=a6:=⟨_,rfl⟩
 replace G:bP a0 a1 C=some a7:=G
 unfold bP at G
 try dsimp only at hLab
 obtain⟨J,X⟩:=hLab
 refine nz 1 J rfl fun U J=>wp_seq_k fun c5 a9=>bH J G rfl (fun b3 G=>?_) fun b3 G=>?_
 ·refine wp_skip (a9 _ _ ?_)
  refine wp_seq_k fun c6 b4=>aA fun c7 b5=>nz 2 J rfl fun U J=>ws fun c8 b6=>xk 3 J rfl fun U J=>?_
  obtain⟨c9,H,G⟩:=bnd G
  refine fR aUm aNu (X.rdl 0 ha0 rfl) H J (fun U J=>?_) rfl
  obtain⟨cs,hV,b7⟩:=el (X.rdl 0 ha0 rfl) H
  obtain rfl:=hV
  refine aK aOd (b7 0 _ rfl) J (fun U J=>?_) rfl
  refine nk 1 J rfl fun U J=>b6 _ _ (bH J G rfl (fun b8 G=>?_) fun b8 G=>?_)
  ·refine nz 2 J rfl fun U J=>?_
   cases G
   refine wp_ret ?_
   have ht:=z _ rfl
   subst ht
   replace G:=a4
   replace G:some C=some y:=G
   cases G
   refine hQ _ _ (lv Tryz.results105 J rfl ?_)
   exact⟨rfl,X⟩
  refine wp_skip (b5 _ _ ?_)
  refine b4 _ _ (aC ?_)
  refine x_l G J rfl fun d0 _ U J G=>x_m J rfl fun U J=>wpList_nil ?_
  cases G
  exact⟨_,a8 _ rfl,J.sub _ rfl,X⟩
 cases G
 exact wp_exit (a5 (z _ rfl) U w (J.sub _ rfl) X)
theorem pY {a0 a1 A0 n0 c0 y} (G:cZ a0 a1=some y) (X:SH r (L) w) (ha0:RdL L (kI .i64) A0 n0 c0 a0) :
  Ret Tryz.prog 81 #[.slice A0 n0 c0,.int .i64 a1] w fun v w'=>v=.bool y∧SH r (L) w':=by
 refine enter Tryz.func81 rfl Tryz.ntmps81 [(0,_),(1,_)] rfl (by simp) ?_
 intro U J Qf hQ hQn
 unfold cZ at G
 refine nz 1 J rfl fun U J=>ws fun C h=>xk 2 J rfl fun U J=>?_
 obtain⟨H,z,G⟩:=bnd G
 refine x_c aW8 J rfl (rN z X (RdL.sfx 0 rfl ha0) :) fun v U w hR J=>?_
 obtain⟨rfl,X⟩:=hR
 refine nk 2 J rfl fun U J=>?_
 cases G
 refine h _ _ (wp_ret ?_)
 refine hQ _ _ (lv Tryz.results81 J rfl ?_)
 exact⟨rfl,X⟩
theorem aB3 {a0 a1 y} (G:tM a0 a1=some y) (X:SH r (L) w) :
  Ret Tryz.prog 28 #[.agg #[.int .u64 a0.f0,.int .i64 a0.f1,.int .i64 a0.f2,str a0.f3,.float .f64 a0.f4],.int .i64 a1] w fun v w'=>v=.bool y∧SH r (L) w':=by
 refine enter Tryz.func28 rfl Tryz.ntmps28 [(0,_),(1,_)] rfl (by simp) ?_
 intro U J Qf hQ hQn
 unfold tM at G
 refine ws fun a2 Y=>oJ J X (fun a3 U w X J=>?_) rfl
 refine x_m J rfl fun U J=>wn (Y _ _ ?_)
 refine ws fun a4 h=>aT tL J (fun U J=>?_) rfl
 refine aK uu3 (X.cell 0 rfl 1 _ rfl) J (fun U J=>?_) rfl
 refine xk 2 J rfl fun U J=>bcG G (fun C G=>?_) fun C G=>?_
 ·refine aM C J ?_ rfl
  refine aT tL J (fun U J=>?_) rfl
  refine aM C J ?_ rfl
  refine aK uu3 (X.cell 0 rfl 1 _ rfl) J (fun U J=>?_) rfl
  refine xg 4 C J rfl rfl fun U J=>bcG G (fun H G=>?_) fun H G=>?_
  ·refine aM H J ?_ rfl
   refine aT mP J (fun U J=>?_) rfl
   refine aM H J ?_ rfl
   refine aK uu2 (X.cell 0 rfl 2 _ rfl) J (fun U J=>?_) rfl
   refine xg 3 H J rfl rfl fun U J=>bcG G (fun I G=>?_) fun I G=>?_
   ·refine aM I J ?_ rfl
    refine aT mP J (fun U J=>?_) rfl
    refine aM I J ?_ rfl
    refine aK uu2 (X.cell 0 rfl 2 _ rfl) J (fun U J=>?_) rfl
    refine xg 3 I J rfl rfl fun U J=>bcG G (fun z G=>?_) fun z G=>?_
    ·refine aM z J ?_ rfl
     refine aT yX J (fun U J=>?_) rfl
     refine aM z J ?_ rfl
     refine aK uu9 (X.cell 0 rfl 3 _ rfl) J (fun U J=>?_) rfl
     refine aM z J ?_ rfl
     refine x_v J (yW uu9 rfl (J.ev rfl)) rfl fun U J=>xg 3 z J rfl rfl fun U J=>bcG G (fun S G=>?_) fun S G=>?_
     ·refine aM S J ?_ rfl
      refine aT yH J (fun U J=>?_) rfl
      refine aM S J ?_ rfl
      refine aK nH (X.cell 0 rfl 0 _ rfl) J (fun U J=>?_) rfl
      refine ng 3 S J rfl rfl fun U J=>?_
      replace X:=X.drop 0
      cases G
      refine h _ _ (wp_ret ?_)
      refine hQ _ _ (lv Tryz.results28 J rfl ?_)
      exact⟨rfl,X⟩
     refine ng 5 S J rfl rfl fun U J=>?_
     replace X:=X.drop 0
     cases G
     refine h _ _ (wp_ret ?_)
     refine hQ _ _ (lv Tryz.results28 J rfl ?_)
     exact⟨rfl,X⟩
    refine xg 6 z J rfl rfl fun U J=>xO 3 rfl J rfl fun U J=>cA rfl J (fun U J=>?_) rfl
    refine x_m J rfl fun U J=>wn (h _ _ ?_)
    replace X:=X.drop 0
    cases G
    refine wp_ret (hQ _ _ ?_)
    exact lv Tryz.results28 J rfl ⟨rfl,X⟩
   refine xg 5 I J rfl rfl fun U J=>xO 4 rfl J rfl fun U J=>cA rfl J (fun U J=>?_) rfl
   refine x_m J rfl fun U J=>xO 3 rfl J rfl fun U J=>cA rfl J (fun U J=>?_) rfl
   refine x_m J rfl fun U J=>wn (h _ _ ?_)
   replace X:=X.drop 0
   cases G
   refine wp_ret (hQ _ _ ?_)
   exact lv Tryz.results28 J rfl ⟨rfl,X⟩
  refine xg 5 H J rfl rfl fun U J=>xO 3 rfl J rfl fun U J=>cA rfl J (fun U J=>?_) rfl
  refine x_m J rfl fun U J=>xO 4 rfl J rfl fun U J=>cA rfl J (fun U J=>?_) rfl
  refine x_m J rfl fun U J=>xO 3 rfl J rfl fun U J=>cA rfl J (fun U J=>?_) rfl
  refine x_m J rfl fun U J=>wn (h _ _ ?_)
  replace X:=X.drop 0
  cases G
  refine wp_ret (hQ _ _ ?_)
  exact lv Tryz.results28 J rfl ⟨rfl,X⟩
 refine xg 6 C J rfl rfl fun U J=>xO 3 rfl J rfl fun U J=>cA rfl J (fun U J=>?_) rfl
 refine x_m J rfl fun U J=>xO 3 rfl J rfl fun U J=>cA rfl J (fun U J=>?_) rfl
 refine x_m J rfl fun U J=>xO 4 rfl J rfl fun U J=>cA rfl J (fun U J=>?_) rfl
 refine x_m J rfl fun U J=>xO 3 rfl J rfl fun U J=>cA rfl J (fun U J=>?_) rfl
 refine x_m J rfl fun U J=>wn (h _ _ ?_)
 replace X:=X.drop 0
 cases G
 refine wp_ret (hQ _ _ ?_)
 exact lv Tryz.results28 J rfl ⟨rfl,X⟩
theorem aLh {a0 a1 y} (G:aB7 a0 a1=some y) (X:SH r (L) w) :
  Ret Tryz.prog 20 #[.agg #[.int .u64 a0.f0,.int .i64 a0.f1,.int .i64 a0.f2,str a0.f3,.float .f64 a0.f4],.int .i64 a1] w fun v w'=>v=.bool y∧SH r (L) w':=by
 refine enter Tryz.func20 rfl Tryz.ntmps20 [(0,_),(1,_)] rfl (by simp) ?_
 intro U J Qf hQ hQn
 unfold aB7 at G
 refine ws fun a2 Y=>oJ J X (fun a3 U w X J=>?_) rfl
 refine x_m J rfl fun U J=>wn (Y _ _ ?_)
 refine ws fun a4 h=>aT tL J (fun U J=>?_) rfl
 refine aK uu3 (X.cell 0 rfl 1 _ rfl) J (fun U J=>?_) rfl
 refine xk 2 J rfl fun U J=>bcG G (fun C G=>?_) fun C G=>?_
 ·refine aM C J ?_ rfl
  refine aT tL J (fun U J=>?_) rfl
  refine aM C J ?_ rfl
  refine aK uu3 (X.cell 0 rfl 1 _ rfl) J (fun U J=>?_) rfl
  refine xg 4 C J rfl rfl fun U J=>bcG G (fun H G=>?_) fun H G=>?_
  ·refine aM H J ?_ rfl
   refine aT mP J (fun U J=>?_) rfl
   refine aM H J ?_ rfl
   refine aK uu2 (X.cell 0 rfl 2 _ rfl) J (fun U J=>?_) rfl
   refine xg 3 H J rfl rfl fun U J=>bcG G (fun I G=>?_) fun I G=>?_
   ·refine aM I J ?_ rfl
    refine aT mP J (fun U J=>?_) rfl
    refine aM I J ?_ rfl
    refine aK uu2 (X.cell 0 rfl 2 _ rfl) J (fun U J=>?_) rfl
    refine xg 3 I J rfl rfl fun U J=>bcG G (fun z G=>?_) fun z G=>?_
    ·refine aM z J ?_ rfl
     refine aT yX J (fun U J=>?_) rfl
     refine aM z J ?_ rfl
     refine aK uu9 (X.cell 0 rfl 3 _ rfl) J (fun U J=>?_) rfl
     refine aM z J ?_ rfl
     refine x_v J (yW uu9 rfl (J.ev rfl)) rfl fun U J=>xg 3 z J rfl rfl fun U J=>bcG G (fun S G=>?_) fun S G=>?_
     ·refine aM S J ?_ rfl
      refine aT yH J (fun U J=>?_) rfl
      refine aM S J ?_ rfl
      refine aK nH (X.cell 0 rfl 0 _ rfl) J (fun U J=>?_) rfl
      refine ng 3 S J rfl rfl fun U J=>?_
      replace X:=X.drop 0
      cases G
      refine h _ _ (wp_ret ?_)
      refine hQ _ _ (lv Tryz.results20 J rfl ?_)
      exact⟨rfl,X⟩
     refine ng 5 S J rfl rfl fun U J=>?_
     replace X:=X.drop 0
     cases G
     refine h _ _ (wp_ret ?_)
     refine hQ _ _ (lv Tryz.results20 J rfl ?_)
     exact⟨rfl,X⟩
    refine xg 6 z J rfl rfl fun U J=>xO 3 rfl J rfl fun U J=>cA rfl J (fun U J=>?_) rfl
    refine x_m J rfl fun U J=>wn (h _ _ ?_)
    replace X:=X.drop 0
    cases G
    refine wp_ret (hQ _ _ ?_)
    exact lv Tryz.results20 J rfl ⟨rfl,X⟩
   refine xg 5 I J rfl rfl fun U J=>xO 4 rfl J rfl fun U J=>cA rfl J (fun U J=>?_) rfl
   refine x_m J rfl fun U J=>xO 3 rfl J rfl fun U J=>cA rfl J (fun U J=>?_) rfl
   refine x_m J rfl fun U J=>wn (h _ _ ?_)
   replace X:=X.drop 0
   cases G
   refine wp_ret (hQ _ _ ?_)
   exact lv Tryz.results20 J rfl ⟨rfl,X⟩
  refine xg 5 H J rfl rfl fun U J=>xO 3 rfl J rfl fun U J=>cA rfl J (fun U J=>?_) rfl
  refine x_m J rfl fun U J=>xO 4 rfl J rfl fun U J=>cA rfl J (fun U J=>?_) rfl
  refine x_m J rfl fun U J=>xO 3 rfl J rfl fun U J=>cA rfl J (fun U J=>?_) rfl
  refine x_m J rfl fun U J=>wn (h _ _ ?_)
  replace X:=X.drop 0
  cases G
  refine wp_ret (hQ _ _ ?_)
  exact lv Tryz.results20 J rfl ⟨rfl,X⟩
 refine xg 6 C J rfl rfl fun U J=>xO 3 rfl J rfl fun U J=>cA rfl J (fun U J=>?_) rfl
 refine x_m J rfl fun U J=>xO 3 rfl J rfl fun U J=>cA rfl J (fun U J=>?_) rfl
 refine x_m J rfl fun U J=>xO 4 rfl J rfl fun U J=>cA rfl J (fun U J=>?_) rfl
 refine x_m J rfl fun U J=>xO 3 rfl J rfl fun U J=>cA rfl J (fun U J=>?_) rfl
 refine x_m J rfl fun U J=>wn (h _ _ ?_)
 replace X:=X.drop 0
 cases G
 refine wp_ret (hQ _ _ ?_)
 exact lv Tryz.results20 J rfl ⟨rfl,X⟩
theorem zJ {a0 a1 g0 g1 y} (G:vP a0 a1=some y) (X:SH r (obj157 Z wz g0 a0::own (kM Z wz (kI .u8)) 124 (some ⟨g1,0,none⟩) 5 5 a1::zone Z wz::L) w) :
  RetS Tryz.prog 76 #[.pointer (some ⟨g0,0,none⟩),(pP g1)] w aB1 y (fun y v w'=>∃ (Z':Nat→Prop) (wz':World),v=.tuple #[]∧Sub Z wz Z' wz'∧SH r (obj157 Z' wz' g0 y.1::own (kM Z' wz' (kI .u8)) 124 (some ⟨g1,0,none⟩) 5 5 y.2::zone Z' wz'::L) w') (fun y w'=>∃ (Z':Nat→Prop) (wz':World),Sub Z wz Z' wz'∧SH r (obj157 Z' wz' g0 y.1::own (kM Z' wz' (kI .u8)) 124 (some ⟨g1,0,none⟩) 5 5 y.2::zone Z' wz'::L) w'):=by
 refine wD Tryz.func76 rfl Tryz.ntmps76 [(0,_),(1,_)] rfl (by simp) ?_
 intro U J Qf hQ hQn hQp
 unfold vP at G
 obtain⟨d8,d9,e0,X⟩:=aJ X
 obtain⟨e1,X⟩:=(X.pk 1).unpure
 refine nz 1 J rfl fun U J=>aA fun c5 e2=>?_
 have hb1:∀a4 b4,uM a4 b4=some y→∀H I b5 b6 b7 (c6:Sub Z wz H I) (c7:Imm H I (kI .u8) b5 b6 b7 a4) U w,FR 13 [] U [(0,(pP g0)),(1,(pP g1))]→SH r (blk g0 157 [.slice b5 b6 b7]::own (kM H I (kI .u8)) 124 (some ⟨g1,0,none⟩) 5 5 b4::zone H I::L) w→c5 U w:=by
  intro a4 b4 G H I b5 b6 b7 c6 c7 U w J X
  unfold uM at G
  replace X:=(SH.pure_ c7 X).pk 1
  replace X:=(bE (x:=(⟨a4⟩:S157)) X).pk 2 |>.pk 2 |>.pk 2
  cases G
  refine e2 _ _ (hQn _ rfl _ _ ?_)
  exact aB6 Tryz.results76 J ⟨H,I,rfl,c6,X⟩
 obtain⟨e3,e4,G⟩:=bnd G
 have e5:=G
 have e6:∀a2 a3,(.inl (a2,a3))=e3→∀S Y a5 a6 a7 (c8:Sub Z wz S Y) (c9:Imm S Y (kI .u8) a5 a6 a7 a2) U w,FR 13 [] U [(0,(pP g0)),(1,(pP g1))]→SH r (blk g0 157 [.slice a5 a6 a7]::own (kM S Y (kI .u8)) 124 (some ⟨g1,0,none⟩) 5 5 a3::zone S Y::L) w→c5 U w:=by
  intro a2 a3 ht S Y a5 a6 a7 c8 c9 U w J X
  subst ht
  replace G:sY a2 a3=some y:=G
  unfold sY at G
  exact hb1 a2 a3 G S Y a5 a6 a7 c8 c9 U w (J.sub _ rfl) X
 refine aE e4 (fun s U w=>∃z C a8 a9 b3,Sub Z wz z C∧Imm z C (kI .u8) a8 a9 b3 s.1∧FR 13 [] U [(0,(pP g0)),(1,(pP g1)),(4,.int .i64 s.2.2)]∧SH r (blk g0 157 [.slice a8 a9 b3]::own (kM z C (kI .u8)) 124 (some ⟨g1,0,none⟩) 5 5 s.2.1::zone z C::L) w) ⟨Z,wz,d8,d9,e0,(Sub.refl _ _),e1,J.sub _ rfl,X⟩ ?_
 intro g6 e7 e8 G e9 d0 U w hLab
 obtain⟨b8,b9,f2⟩:=e7
 replace G:fL b8 b9 f2=some e8:=G
 unfold fL at G
 try dsimp only at hLab
 obtain⟨z,C,a8,a9,b3,c0,d1,J,X⟩:=hLab
 refine nz 1 J rfl fun U J=>wp_seq_k fun g7 f3=>bH J G rfl (fun f4 G=>?_) fun f4 G=>?_
 ·refine wp_skip (f3 _ _ ?_)
  refine wp_seq_k fun g8 f5=>aA fun g9 f6=>nz 2 J rfl fun U J=>aC (xk 2 J rfl fun U J=>?_)
  replace X:=(SH.pure_ d1 X).pk 1
  replace X:=bE (x:=(⟨b8⟩:S157)) X
  refine pC G aYo J rfl (fun _ h=>uK h X 1 rfl) (fun c3 w X G=>?_) fun c3 v U w hR J G=>?_
  ·replace X:=X.pk 2 |>.pk 2 |>.pk 2
   cases G
   have ht:=d0 _ rfl
   subst ht
   replace G:=e5
   replace G:some (.inr (c3,b9))=some y:=G
   cases G
   exact hQp _ rfl _ _ J.defers ⟨z,C,c0,X⟩
  obtain⟨rfl,X⟩:=hR
  obtain⟨f7,f8,f9,X⟩:=aJ X
  obtain⟨g2,X⟩:=(X.pk 1).unpure
  obtain⟨g3,G⟩:=aB G
  refine aV0 (e:=5) fC uu5 uu9 J X g3 (fun d2 d3 d4 U w X J=>?_) rfl
  obtain⟨h0,d5,G⟩:=bnd G
  refine zC aHb aCt (X.rd 2 rfl) d5 J (fun U J=>?_) rfl
  replace X:=X.pk 3 |>.pk 1
  obtain⟨d6,d7,X,g4,c4⟩:=SH.freezem (m:=d3) (c:=d4) (A:=d2) X
  have g5:=Imm.sub g2 c4
  replace X:=(X.pk 2).kind (d':=(kM d6 d7 (kI .u8))) rfl (aCv c4)
  refine aEx (z':=stb c3.1) (off:=0) (vs:=[.slice d2 d3 d4]) 0 aCt J X rfl (dU d5).2.2 (fun c h=>by obtain⟨_,_,_,rfl,_⟩:=h; exact⟨_,_,_,rfl,g4⟩) (fun  U w X J=>?_) rfl rfl rfl rfl rfl rfl rfl rfl
  refine wpList_nil (f6 _ _ ?_)
  refine f5 _ _ (aC ?_)
  refine x_l G J rfl fun h1 _ U J G=>x_m J rfl fun U J=>wpList_nil ?_
  replace X:=X.pk 1 |>.pk 1 |>.pk 2
  cases G
  exact⟨_,e9 _ rfl,d6,d7,f7,f8,f9,(Sub.trans c0 c4),g5,J.sub _ rfl,X⟩
 cases G
 exact wp_exit (e6 b8 b9 (d0 _ rfl) z C a8 a9 b3 c0 d1 U w (J.sub _ rfl) X)
theorem aA5 {a0 C A0 n0 c0 z y} (G:tO a0 C=some y) (X:SH r (own (kM Z wz (kI .u8)) 124 (some ⟨z,0,none⟩) 5 5 C::zone Z wz::L) w) (ha0:Imm Z wz (kI .u8) A0 n0 c0 a0) :
  Ret Tryz.prog 75 #[.slice A0 n0 c0,.func (.func 76) #[] #[.pointer (some ⟨z,0,none⟩)]] w fun v w'=>∃ (Z':Nat→Prop) (wz':World),v=.bool y.1∧Sub Z wz Z' wz'∧SH r (own (kM Z' wz' (kI .u8)) 124 (some ⟨z,0,none⟩) 5 5 y.2::zone Z' wz'::L) w':=by
 obtain⟨y',hy,G⟩:=bnd G
 refine Ret.mono_ (aFl (R:=fun v w'=>∃ (Z':Nat→Prop) (wz':World),v=.bool y.1∧Sub Z wz Z' wz'∧SH r (own (kM Z' wz' (kI .u8)) 124 (some ⟨z,0,none⟩) 5 5 y.2::zone Z' wz'::L) w') bBq X (fun g g4 w1 hS1=>?_)) (fun v w' h=>h)
 replace hS1:=bE (x:=⟨a0⟩) (hS1.pk 1 |> fun h=>(SH.pure_ ha0 (h.pk 1)).pk 1)
 replace hS1:=hS1.pk 1
 replace hS1:=hS1.pk 3
 replace hS1:=hS1.pk 3
 replace hS1:=hS1.pk 3
 rcases y' with y' | y'
 ·replace G:=aPr G
  cases G
  left
  refine Ret.mono_ (RetS.lf (zJ hy hS1 :)) ?_
  rintro v w2 ⟨Z',wz',rfl,hs,X⟩
  replace X:=X.pk 3 |>.pk 1
  obtain⟨A',n',c',X⟩:=aJ X
  have hQ:=SH.unpure (X.pk 1)
  clear X
  obtain⟨hi,X⟩:=hQ
  refine⟨_,A',n',c',X,fun w3 h3=>⟨Z',wz',?_,hs,h3⟩⟩
  rw [← hi.ln]
 ·replace G:=aPv G
  cases G
  right
  refine Calls.mono (RetS.rf (zJ hy hS1 :)) ?_
  rintro e w2 ⟨rfl,Z',wz',hs,X⟩
  replace X:=X.pk 3 |>.drop 1
  exact⟨rfl,_,X,fun w3 h3=>⟨Z',wz',rfl,hs,h3⟩⟩
theorem aH5 {a0 a1 a2 A0 n0 c0 y} (G:rK a0 a1 a2=some y) (X:SH r (zone Z wz::L) w) (ha0:Imm Z wz (kI .u8) A0 n0 c0 a0) (hG1:Imm Z wz (kI .u32) (some ⟨1,0,none⟩) 16 16 cX) :
  Ret Tryz.prog 62 #[.slice A0 n0 c0,.int .i64 a1,.int .i64 a2] w fun v w'=>∃ (Z':Nat→Prop) (wz':World) (B0:Option Addr) (m0:Nat) (d0:Nat),v=.tuple #[(.slice B0 m0 d0),(.int .i64 y.2.1),(.int .i64 y.2.2)]∧Sub Z wz Z' wz'∧SH r (own k47 47 B0 m0 d0 y.1::zone Z' wz'::L) w':=by
 refine enter Tryz.func62 rfl Tryz.ntmps62 [(0,_),(1,_),(2,_)] rfl (by simp) ?_
 intro U J Qf hQ hQn
 unfold rK at G
 refine nz 3 J rfl fun U J=>ws fun p6 h5=>xk 2 J rfl fun U J=>?_
 obtain⟨a6,h6,G⟩:=bnd G
 refine x_c bBc J rfl (aJw h6 X 0 rfl ha0 hG1 :) fun v U w hR J=>?_
 obtain⟨h7,h8,h9,rfl,X⟩:=hR
 refine nk 9 J rfl fun U J=>h5 _ _ (wp_seq_k fun p7 i0=>?_)
 refine nz 2 J rfl fun U J=>bH J G rfl (fun i1 G=>?_) fun i1 G=>?_
 ·refine nz 4 J rfl fun U J=>?_
  replace X:=(SH.nil_own (d:=k47) (e:=47) X).drop 1 |>.pk 1 |>.pk 1
  cases G
  refine wp_ret (hQ _ _ ?_)
  exact lv3 Tryz.results62 J rfl rfl rfl ⟨Z,wz,none,0,0,rfl,(Sub.refl _ _),X⟩
 refine wp_skip (i0 _ _ ?_)
 refine ws fun p8 i2=>iE (cs:=[.slice none 0 0,.slice none 0 0,.slice none 0 0,.slice none 0 0,.slice none 0 0]) aYa J X (fun f6 U w X J=>?_) rfl
 replace X:=aSs (d:=(kM Z wz (kI .u8))) (xs:=([[],[],[],[],[]]:List (List Int))) ⟨[.slice none 0 0],_,rfl,⟨_,_,_,rfl,Imm.nil⟩,⟨[.slice none 0 0],_,rfl,⟨_,_,_,rfl,Imm.nil⟩,⟨[.slice none 0 0],_,rfl,⟨_,_,_,rfl,Imm.nil⟩,⟨[.slice none 0 0],_,rfl,⟨_,_,_,rfl,Imm.nil⟩,⟨[.slice none 0 0],_,rfl,⟨_,_,_,rfl,Imm.nil⟩,rfl⟩⟩⟩⟩⟩ rfl rfl X
 refine wn (i2 _ _ ?_)
 refine wp_seq_k fun i3 i4=>?_
 have hj1:∀f7 f8,mM a2 a6 f7 f8=some y→∀z C (c3:Sub Z wz z C) U w,FR 149 [] U [(2,.int .i64 a2),(11,.int .i64 a6.2.2.1),(13,(pP f6)),(14,.bool f8)]→SH r (own (kM z C (kI .u8)) 124 (some ⟨f6,0,none⟩) 5 5 f7::zone z C::L) w→i3 U w:=by
  intro f7 f8 G z C c3 U w J X
  unfold mM at G
  refine i4 _ _ (wp_seq_k fun p9 i5=>?_)
  refine nz 2 J rfl fun U J=>bH J G rfl (fun i6 G=>?_) fun i6 G=>?_
  ·refine nz 3 J rfl fun U J=>?_
   replace X:=(SH.nil_own (d:=k47) (e:=47) X).drop 1 |>.pk 1 |>.pk 1
   cases G
   refine wp_ret (hQ _ _ ?_)
   exact lv3 Tryz.results62 J rfl rfl rfl ⟨z,C,none,0,0,rfl,c3,X⟩
  refine wp_skip (i5 _ _ ?_)
  refine ws fun q0 i7=>?_
  obtain⟨q1,g3,G⟩:=bnd G
  refine zC aHb aCt (X.rd 0 rfl) g3 J (fun U J=>?_) rfl
  obtain⟨cs,hV,i8⟩:=el (X.rd 0 rfl) g3
  obtain⟨q2,q3,q4,rfl,i9⟩:=hV
  refine aK fC (i8 0 _ rfl) J (fun U J=>?_) rfl
  obtain⟨H,j0,G⟩:=bnd G
  refine x_c aTk J rfl (oR j0 X 1 rfl i9 :) fun v U w hR J=>?_
  obtain⟨b4,c4,c5,rfl,X⟩:=hR
  refine nk 5 J rfl fun U J=>i7 _ _ (ws fun q5 j1=>?_)
  obtain⟨q6,g4,G⟩:=bnd G
  refine zC aHb aCt (X.rd 1 rfl) g4 J (fun U J=>?_) rfl
  obtain⟨cs,hV,j2⟩:=el (X.rd 1 rfl) g4
  obtain⟨q7,q8,q9,rfl,j3⟩:=hV
  refine aK fC (j2 0 _ rfl) J (fun U J=>?_) rfl
  obtain⟨a8,j4,G⟩:=bnd G
  refine x_c aTk J rfl (oR j4 X 2 rfl j3 :) fun v U w hR J=>?_
  obtain⟨b5,c6,c7,rfl,X⟩:=hR
  refine nk 5 J rfl fun U J=>j1 _ _ (ws fun r0 j5=>?_)
  obtain⟨r1,g5,G⟩:=bnd G
  refine zC aHb aCt (X.rd 2 rfl) g5 J (fun U J=>?_) rfl
  obtain⟨cs,hV,j6⟩:=el (X.rd 2 rfl) g5
  obtain⟨r2,r3,r4,rfl,j7⟩:=hV
  refine aK fC (j6 0 _ rfl) J (fun U J=>?_) rfl
  obtain⟨a9,j8,G⟩:=bnd G
  refine x_c aTk J rfl (oR j8 X 3 rfl j7 :) fun v U w hR J=>?_
  obtain⟨b6,c8,c9,rfl,X⟩:=hR
  refine nk 5 J rfl fun U J=>j5 _ _ (ws fun r5 j9=>?_)
  obtain⟨r6,g6,G⟩:=bnd G
  refine zC aHb aCt (X.rd 3 rfl) g6 J (fun U J=>?_) rfl
  obtain⟨cs,hV,k0⟩:=el (X.rd 3 rfl) g6
  obtain⟨r7,r8,r9,rfl,k1⟩:=hV
  refine aK fC (k0 0 _ rfl) J (fun U J=>?_) rfl
  obtain⟨b3,k2,G⟩:=bnd G
  refine x_c bBk J rfl (aA8 k2 X 4 rfl k1 :) fun v U w hR J=>?_
  obtain⟨b7,d1,d2,rfl,X⟩:=hR
  refine nk 5 J rfl fun U J=>j9 _ _ (ws fun s2 k3=>?_)
  obtain⟨s3,g7,G⟩:=bnd G
  refine zC aHb aCt (X.rd 4 rfl) g7 J (fun U J=>?_) rfl
  obtain⟨cs,hV,k4⟩:=el (X.rd 4 rfl) g7
  obtain⟨s4,s5,s6,rfl,k5⟩:=hV
  refine aK fC (k4 0 _ rfl) J (fun U J=>?_) rfl
  obtain⟨a7,k6,G⟩:=bnd G
  refine x_c bA3 J rfl (aA2 k6 X 5 rfl k5 :) fun v U w hR J=>?_
  obtain⟨b8,d3,d4,rfl,X⟩:=hR
  refine nk 5 J rfl fun U J=>k3 _ _ (ws fun s7 k7=>?_)
  refine xk 1 J rfl fun U J=>bC bM (X.rd 4 rfl).2.1 J (fun U J=>?_) rfl
  refine x_m J rfl fun U J=>wn (k7 _ _ ?_)
  refine wp_seq_k fun s8 k8=>wp_seq_k fun k9 l0=>?_
  have hj2:∀f9,eX a2 a6 H a8 a9 b3 a7 f9=some y→∀U w,FR 149 [] U [(2,.int .i64 a2),(11,.int .i64 a6.2.2.1),(15,.slice b4 c4 c5),(17,.slice b5 c6 c7),(19,.slice b6 c8 c9),(21,.slice b7 d1 d2),(23,.slice b8 d3 d4),(25,.int .i64 (H.1.length:Int)),(111,.bool f9)]→SH r (own (kI .i64) 2 b4 c4 c5 H.1::own (kI .i64) 2 b5 c6 c7 a8.1::own (kI .i64) 2 b6 c8 c9 a9.1::own kS 9 b7 d1 d2 b3.1::own kF 45 b8 d3 d4 a7.1::zone z C::L) w→k9 U w:=by
   intro f9 G U w J X
   unfold eX at G
   refine l0 _ _ (bH J G rfl (fun l1 G=>?_) fun l1 G=>?_)
   ·refine nz 3 J rfl fun U J=>?_
    replace X:=(SH.nil_own (d:=k47) (e:=47) X).drop 1 |>.drop 1 |>.drop 1 |>.drop 1 |>.drop 1 |>.pk 1 |>.pk 1
    cases G
    refine wp_ret (hQ _ _ ?_)
    exact lv3 Tryz.results62 J rfl rfl rfl ⟨z,C,none,0,0,rfl,c3,X⟩
   refine wp_skip (k8 _ _ ?_)
   refine nz 1 J rfl fun U J=>wp_seq_k fun s9 l2=>nz 2 J rfl fun U J=>aA fun g8 l3=>?_
   have hb1:∀g0,wZ a6 g0=some y→∀e0 e1 e2 U w,FR 149 [] U [(11,.int .i64 a6.2.2.1),(26,.slice e0 e1 e2)]→SH r (own k47 47 e0 e1 e2 g0::zone z C::L) w→g8 U w:=by
    intro g0 G e0 e1 e2 U w J X
    unfold wZ at G
    refine l3 _ _ (l2 _ _ ?_)
    refine nz 5 J rfl fun U J=>?_
    replace X:=X.pk 1 |>.pk 1
    cases G
    refine wp_ret (hQ _ _ ?_)
    exact lv3 Tryz.results62 J rfl rfl rfl ⟨z,C,e0,e1,e2,rfl,c3,X⟩
   obtain⟨l4,l5,G⟩:=bnd G
   have l6:=G
   have l7:∀d5,(.inl (d5))=l4→∀e3 e4 e5 U w,FR 149 [] U [(11,.int .i64 a6.2.2.1),(26,.slice e3 e4 e5)]→SH r (own k47 47 e3 e4 e5 d5::zone z C::L) w→g8 U w:=by
    intro d5 ht e3 e4 e5 U w J X
    subst ht
    replace G:uR a6 d5=some y:=G
    unfold uR at G
    exact hb1 d5 G e3 e4 e5 U w (J.sub _ rfl) X
   replace X:=(SH.nil_own (d:=k47) (e:=47) X).pk 6 |>.pk 1 |>.pk 6 |>.pk 6 |>.pk 6 |>.pk 6 |>.pk 6
   refine aE l5 (fun s U w=>∃e6 e7 e8,FR 149 [] U [(2,.int .i64 a2),(11,.int .i64 a6.2.2.1),(15,.slice b4 c4 c5),(17,.slice b5 c6 c7),(19,.slice b6 c8 c9),(21,.slice b7 d1 d2),(23,.slice b8 d3 d4),(26,.slice e6 e7 e8),(112,.int .i64 (H.1.length:Int)),(113,.int .i64 s.2)]∧SH r (own (kI .i64) 2 b4 c4 c5 H.1::own (kI .i64) 2 b5 c6 c7 a8.1::own (kI .i64) 2 b6 c8 c9 a9.1::own kS 9 b7 d1 d2 b3.1::own kF 45 b8 d3 d4 a7.1::own k47 47 e6 e7 e8 s.1::zone z C::L) w) ⟨none,0,0,J.sub _ rfl,X⟩ ?_
   intro t0 l8 l9 G m1 g9 U w hLab
   obtain⟨h0,I⟩:=l8
   replace G:kP a2 H a8 a9 b3 a7 h0 I=some l9:=G
   unfold kP at G
   try dsimp only at hLab
   obtain⟨e6,e7,e8,J,X⟩:=hLab
   refine nz 1 J rfl fun U J=>wp_seq_k fun t1 m2=>bH J G rfl (fun m3 G=>?_) fun m3 G=>?_
   ·refine wp_skip (m2 _ _ ?_)
    refine wp_seq_k fun t3 m4=>aA fun t4 m5=>nz 2 J rfl fun U J=>wp_seq_k fun t5 m6=>dE [0,0,3,7,15,0,0,96,224,0,0,1536,3584,0,0,24576,57344,0,0,393216,917504,2097151,0,8388607] [22,23] rfl J X (by kernel_rfl) (by kernel_rfl) (by kernel_rfl) (by kernel_rfl) fun w X=>?_
    obtain⟨m7,e9,G⟩:=bnd G
    obtain⟨cs,hV,m8⟩:=el (X.rd 0 rfl) e9
    obtain rfl:=hV
    obtain⟨S,h1,G⟩:=nR G
    obtain⟨Y,f2,G⟩:=bnd G
    obtain⟨cs,hV,m9⟩:=el (X.rd 1 rfl) f2
    obtain rfl:=hV
    obtain⟨a3,f3,G⟩:=bnd G
    obtain⟨cs,hV,n3⟩:=el (X.rd 2 rfl) f3
    obtain rfl:=hV
    obtain⟨a4,f4,G⟩:=bnd G
    obtain⟨cs,hV,n4⟩:=el (X.rd 3 rfl) f4
    obtain rfl:=hV
    obtain⟨a5,f5,G⟩:=bnd G
    obtain⟨cs,hV,n5⟩:=el (X.rd 4 rfl) f5
    obtain rfl:=hV
    refine⟨[(0,.slice b4 c4 c5),(1,.int .i64 I),(2,.pointer (some (ea b4 (I.toNat * 1)))),(3,.int .i64 m7),(4,.int .u64 S),(5,.slice b5 c6 c7),(6,.int .i64 I),(7,.pointer (some (ea b5 (I.toNat * 1)))),(8,.int .i64 Y),(9,.slice b6 c8 c9),(10,.int .i64 I),(11,.pointer (some (ea b6 (I.toNat * 1)))),(12,.int .i64 a3),(13,.slice b7 d1 d2),(14,.int .i64 I),(15,.pointer (some (ea b7 (I.toNat * 1)))),(16,str a4),(17,.slice b8 d3 d4),(18,.int .i64 I),(19,.pointer (some (ea b8 (I.toNat * 1)))),(20,.float .f64 a5),(21,.agg #[.int .u64 S,.int .i64 Y,.int .i64 a3,str a4,.float .f64 a5])],?_⟩
    refine dF [0,1,2,3,4,5,6,7,8,9,10,11,12,13,14,15,16,17,18,19,20,21] [22] (by kernel_rfl) ⟨pm rfl,pm rfl,pt [(116,_),(117,_)] rfl (fun U J=>fT bM sz2 (X.rd 0 rfl) e9 J rfl rfl rfl),pt [(118,_)] rfl (fun U J=>cM uu2 (m8 0 _ rfl) J rfl rfl rfl),pt [(119,_)] rfl fun U J=>kR h1 (aX uu2 nH rfl (J.ev rfl)),pm rfl,pm rfl,pt [(121,_),(122,_)] rfl (fun U J=>fT bM sz2 (X.rd 1 rfl) f2 J rfl rfl rfl),pt [(123,_)] rfl (fun U J=>cM uu2 (m9 0 _ rfl) J rfl rfl rfl),pm rfl,pm rfl,pt [(125,_),(126,_)] rfl (fun U J=>fT bM sz2 (X.rd 2 rfl) f3 J rfl rfl rfl),pt [(127,_)] rfl (fun U J=>cM uu2 (n3 0 _ rfl) J rfl rfl rfl),pm rfl,pm rfl,pt [(129,_),(130,_)] rfl (fun U J=>fT lL sz9 (X.rd 3 rfl) f4 J rfl rfl rfl),pt [(131,_)] rfl (fun U J=>cM uu9 (n4 0 _ rfl) J rfl rfl rfl),pm rfl,pm rfl,pt [(133,_),(134,_)] rfl (fun U J=>fT aCe aV1 (X.rd 4 rfl) f5 J rfl rfl rfl),pt [(135,_)] rfl (fun U J=>cM aOc (n5 0 _ rfl) J rfl rfl rfl),pt [(120,_),(124,_),(128,_),(132,_),(136,_)] rfl fun U J=>rG (ps:=#[(0,.int .u64 S),(1,.int .i64 Y),(2,.int .i64 a3),(3,str a4),(4,.float .f64 a5)]) rfl (tY J rfl) (fun w=>by kernel_rfl),trivial⟩ ⟨et [] rfl (fun U J K hK=>?_),trivial⟩
    refine aO5 (cs:=[.int .u64 0,.int .i64 0,.int .i64 0,str [],.float .f64 0]) aJb J X (fun h2 w X=>?_) rfl
    obtain⟨cs,hV,n6⟩:=el (X.rd 1 rfl) e9
    obtain rfl:=hV
    obtain⟨cs,hV,n7⟩:=el (X.rd 2 rfl) f2
    obtain rfl:=hV
    obtain⟨cs,hV,n8⟩:=el (X.rd 3 rfl) f3
    obtain rfl:=hV
    obtain⟨cs,hV,n9⟩:=el (X.rd 4 rfl) f4
    obtain rfl:=hV
    obtain⟨cs,hV,o0⟩:=el (X.rd 5 rfl) f5
    obtain rfl:=hV
    refine hK _ [] _ rfl (dF [0,1,2,3,4,5,6,7,8,9,10,11,12,13,14,15,16,17,18,19,20,21] [23] (by kernel_rfl) ⟨pm rfl,pm rfl,pt [(116,_),(117,_)] rfl (fun U J=>fT bM sz2 (X.rd 1 rfl) e9 J rfl rfl rfl),pt [(118,_)] rfl (fun U J=>cM uu2 (n6 0 _ rfl) J rfl rfl rfl),pt [(119,_)] rfl fun U J=>kR h1 (aX uu2 nH rfl (J.ev rfl)),pm rfl,pm rfl,pt [(121,_),(122,_)] rfl (fun U J=>fT bM sz2 (X.rd 2 rfl) f2 J rfl rfl rfl),pt [(123,_)] rfl (fun U J=>cM uu2 (n7 0 _ rfl) J rfl rfl rfl),pm rfl,pm rfl,pt [(125,_),(126,_)] rfl (fun U J=>fT bM sz2 (X.rd 3 rfl) f3 J rfl rfl rfl),pt [(127,_)] rfl (fun U J=>cM uu2 (n8 0 _ rfl) J rfl rfl rfl),pm rfl,pm rfl,pt [(129,_),(130,_)] rfl (fun U J=>fT lL sz9 (X.rd 4 rfl) f4 J rfl rfl rfl),pt [(131,_)] rfl (fun U J=>cM uu9 (n9 0 _ rfl) J rfl rfl rfl),pm rfl,pm rfl,pt [(133,_),(134,_)] rfl (fun U J=>fT aCe aV1 (X.rd 5 rfl) f5 J rfl rfl rfl),pt [(135,_)] rfl (fun U J=>cM aOc (o0 0 _ rfl) J rfl rfl rfl),pt [(120,_),(124,_),(128,_),(132,_),(136,_)] rfl fun U J=>rG (ps:=#[(0,.int .u64 S),(1,.int .i64 Y),(2,.int .i64 a3),(3,str a4),(4,.float .f64 a5)]) rfl (tY J rfl) (fun w=>by kernel_rfl),trivial⟩ ⟨et [(28,_),(137,_)] rfl (fun U J K hK=>?_),trivial⟩)
    refine aKy 0 dI J X rfl (fun  w X=>?_) rfl
    refine hK _ [] _ rfl (gW [] (by kernel_rfl) trivial ⟨by kernel_rfl,by kernel_rfl⟩ [(2,_),(11,_),(15,_),(17,_),(19,_),(21,_),(23,_),(26,_),(28,_),(112,_),(113,_)] rfl (fun U J=>?_))
    refine m6 _ _ (wp_seq_k fun t6 o1=>?_)
    refine ws fun t7 o2=>kK (ad:=⟨h2,0,none⟩) (cs:=[.int .u64 S,.int .i64 Y,.int .i64 a3,str a4,.float .f64 a5]) nG dI (fun j u h=>by rw [jR,Nat.zero_add]; exact X.cell 0 rfl j u h) J (fun U J=>?_) rfl
    refine x_m J rfl fun U J=>?_
    obtain⟨t8,o3,G⟩:=bnd G
    refine x_c aXt J rfl (aB3 o3 X :) fun v U w hR J=>?_
    obtain⟨rfl,X⟩:=hR
    refine nk 1 J rfl fun U J=>o2 _ _ (bH J G rfl (fun o4 G=>?_) fun o4 G=>?_)
    ·refine nz 3 J rfl fun U J=>?_
     replace X:=(SH.nil_own (d:=k47) (e:=47) X).drop 1 |>.drop 1 |>.drop 1 |>.drop 1 |>.drop 1 |>.drop 1 |>.drop 1 |>.pk 1 |>.pk 1
     cases G
     refine wp_ret ?_
     have ht:=g9 _ rfl
     subst ht
     replace G:=l6
     replace G:some ([],0,3)=some y:=G
     cases G
     refine hQ _ _ (lv3 Tryz.results62 J rfl rfl rfl ?_)
     exact⟨z,C,none,0,0,rfl,c3,X⟩
    refine wp_skip (o1 _ _ ?_)
    refine aC (x_m J rfl fun U J=>?_)
    refine kK (ad:=⟨h2,0,none⟩) (cs:=[.int .u64 S,.int .i64 Y,.int .i64 a3,str a4,.float .f64 a5]) nG dI (fun j u h=>by rw [jR,Nat.zero_add]; exact X.cell 0 rfl j u h) J (fun U J=>?_) rfl
    refine iV (d:=k47) (e:=47) (ps:=#[(0,.agg #[.int .u64 S,.int .i64 Y,.int .i64 a3,str a4,.float .f64 a5])]) (cells:=[.int .u64 S,.int .i64 Y,.int .i64 a3,str a4,.float .f64 a5]) (xs:=[(⟨S,Y,a3,a4,a5⟩:S47)]) (fun w=>by kernel_rfl) rfl ⟨[.int .u64 S,.int .i64 Y,.int .i64 a3,str a4,.float .f64 a5],_,rfl,rfl,rfl⟩ J X (fun t9 U w X J=>?_) rfl
    obtain⟨o5,G⟩:=aB G
    have hr:=X.rd 0 rfl
    refine iP 7 aJu gO J X hr.1 hr.2.1 o5 rfl (fun o6 o7 o8 U w X J=>?_) rfl
    refine x_m J rfl fun U J=>wpList_nil (m5 _ _ ?_)
    refine m4 _ _ (aC ?_)
    refine x_l G J rfl fun u0 _ U J G=>x_m J rfl fun U J=>wpList_nil ?_
    replace X:=X.drop 1 |>.drop 1 |>.pk 6 |>.pk 1 |>.pk 6 |>.pk 6 |>.pk 6 |>.pk 6 |>.pk 6
    cases G
    exact⟨_,m1 _ rfl,o6,o7,o8,J.sub _ rfl,X⟩
   replace X:=X.drop 0 |>.drop 0 |>.drop 0 |>.drop 0 |>.drop 0
   cases G
   exact wp_exit (l7 h0 (g9 _ rfl) e6 e7 e8 U w (J.sub _ rfl) X)
  refine aC (xk 5 J rfl fun U J=>?_)
  refine iV (d:=(kI .i64)) (e:=28) (ps:=#[(0,.int .i64 H.2),(1,.int .i64 a8.2),(2,.int .i64 a9.2),(3,.int .i64 b3.2),(4,.int .i64 a7.2)]) (cells:=[.int .i64 H.2,.int .i64 a8.2,.int .i64 a9.2,.int .i64 b3.2,.int .i64 a7.2]) (xs:=[H.2,a8.2,a9.2,b3.2,a7.2]) (fun w=>by kernel_rfl) rfl ⟨[.int .i64 H.2],_,rfl,rfl,⟨[.int .i64 a8.2],_,rfl,rfl,⟨[.int .i64 a9.2],_,rfl,rfl,⟨[.int .i64 b3.2],_,rfl,rfl,⟨[.int .i64 a7.2],_,rfl,rfl,rfl⟩⟩⟩⟩⟩ J X (fun u1 U w X J=>?_) rfl
  obtain⟨u2,o9,G⟩:=bnd G
  refine x_c bBe J rfl (pY o9 X (RdL.own 0 rfl (X.dropN 0)) :) fun v U w hR J=>?_
  obtain⟨rfl,X⟩:=hR
  refine x_m J rfl fun U J=>bcG G (fun d6 G=>?_) fun d6 G=>?_
  ·refine xg 6 d6 J rfl rfl fun U J=>xO 4 rfl J rfl fun U J=>jX rfl J (fun U J=>?_) rfl
   refine x_m J rfl fun U J=>xO 4 rfl J rfl fun U J=>jX rfl J (fun U J=>?_) rfl
   refine x_m J rfl fun U J=>xO 4 rfl J rfl fun U J=>jX rfl J (fun U J=>?_) rfl
   refine wpList_nil ?_
   replace X:=X.drop 0 |>.drop 5 |>.pk 5 |>.pk 1 |>.pk 2 |>.pk 3 |>.pk 4 |>.pk 5
   exact hj2 true G U w (J.sub _ rfl) X
  refine xg 1 d6 J rfl rfl fun U J=>aM d6 J ?_ rfl
  refine bC bM (X.rd 4 rfl).2.1 J (fun U J=>?_) rfl
  refine xg 4 d6 J rfl rfl fun U J=>bcG G (fun d7 G=>?_) fun d7 G=>?_
  ·refine xg 6 d7 J rfl rfl fun U J=>xO 4 rfl J rfl fun U J=>jX rfl J (fun U J=>?_) rfl
   refine x_m J rfl fun U J=>xO 4 rfl J rfl fun U J=>jX rfl J (fun U J=>?_) rfl
   refine wpList_nil ?_
   replace X:=X.drop 0 |>.drop 5 |>.pk 5 |>.pk 1 |>.pk 2 |>.pk 3 |>.pk 4 |>.pk 5
   exact hj2 true G U w (J.sub _ rfl) X
  refine xg 1 d7 J rfl rfl fun U J=>aM d7 J ?_ rfl
  refine bC bM (X.rd 3 rfl).2.1 J (fun U J=>?_) rfl
  refine xg 4 d7 J rfl rfl fun U J=>bcG G (fun d8 G=>?_) fun d8 G=>?_
  ·refine xg 6 d8 J rfl rfl fun U J=>xO 4 rfl J rfl fun U J=>jX rfl J (fun U J=>?_) rfl
   refine wpList_nil ?_
   replace X:=X.drop 0 |>.drop 5 |>.pk 5 |>.pk 1 |>.pk 2 |>.pk 3 |>.pk 4 |>.pk 5
   exact hj2 true G U w (J.sub _ rfl) X
  refine xg 1 d8 J rfl rfl fun U J=>aM d8 J ?_ rfl
  refine bC lL (X.rd 2 rfl).2.1 J (fun U J=>?_) rfl
  refine xg 4 d8 J rfl rfl fun U J=>bcG G (fun d9 G=>?_) fun d9 G=>?_
  ·refine ng 5 d9 J rfl rfl fun U J=>?_
   replace X:=X.drop 0 |>.drop 5 |>.pk 5 |>.pk 1 |>.pk 2 |>.pk 3 |>.pk 4 |>.pk 5
   exact hj2 true G U w (J.sub _ rfl) X
  refine xg 1 d9 J rfl rfl fun U J=>aM d9 J ?_ rfl
  refine bC aCe (X.rd 1 rfl).2.1 J (fun U J=>?_) rfl
  refine ng 3 d9 J rfl rfl fun U J=>?_
  replace X:=X.drop 0 |>.drop 5 |>.pk 5 |>.pk 1 |>.pk 2 |>.pk 3 |>.pk 4 |>.pk 5
  exact hj2 ((a7.1.length:Int) != (H.1.length:Int)) G U w (J.sub _ rfl) X
 refine aC (xk 3 J rfl fun U J=>?_)
 refine bcG G (fun b9 G=>?_) fun b9 G=>?_
 ·refine xg 1 b9 J rfl rfl fun U J=>aM b9 J ?_ rfl
  refine x_v J (mL rfl (rR (vals:=#[]) J rfl) (rR (vals:=#[.pointer (some ⟨f6,0,none⟩)]) J rfl)) rfl fun U J=>aM b9 J ?_ rfl
  replace X:=X.pk 2 |>.pk 2
  obtain⟨p0,p1,X,h3,g1⟩:=SH.freeze (n:=h8) (c:=h9) (A:=h7) X
  have p2:=Imm.sub ha0 g1
  replace X:=(X.pk 1).kind (d':=(kM p0 p1 (kI .u8))) rfl (aCv g1)
  replace X:=X.pk 1 |>.pk 1
  obtain⟨h4,p3,G⟩:=bnd G
  refine x_c aVn J rfl (aA5 p3 X h3 :) fun v U w hR J=>?_
  obtain⟨p4,p5,rfl,g2,X⟩:=hR
  have u3:=Imm.sub p2 g2
  have u4:=Imm.sub h3 g2
  exact ng 2 b9 J rfl rfl fun U J=>hj1 h4.2 h4.1 G p4 p5 (Sub.trans g1 g2) U w (J.sub _ rfl) X
 refine ng 5 b9 J rfl rfl fun U J=>?_
 replace X:=X.drop 1
 exact hj1 ([[],[],[],[],[]]:List (List Int)) false G Z wz (Sub.refl _ _) U w (J.sub _ rfl) X
end
noncomputable section
set_option linter.unusedSimpArgs false
def vE (a0:(List Int)) (h:(List Int)):Option ((List Int)) :=
  (yY a0 101 h).bind fun z=>(some z)
def sR (a0:(List Int)) (h:(List Int)):Option ((List Int)) :=
  vE a0 h
def mF (z:((List Int))) (C:((List Int))) (G:((List Int))) (H:((List Int))) (I:((List Int))) (J:(List Int)) (h:Int):Option (((List Int)×Int)⊕(((List Int)))) :=
  if (decide (h<([z,C,G,H,I].length:Int)))=true then ((at_ [z,C,G,H,I] h).bind fun S=>((pF J (bts S)).bind fun U=>(ltt (IntKind.i64.wrap (h+1)) fun X=>(some (.inl (U,X)))))) else (some (.inr (J)))
def vN (a0:(List Int)) (h:(List Int)) (z:(List Int)) (C:(List Int)) (G:(List (List UInt8))) (H:(List Nat)):Option ((List Int)) :=
  (mH h).bind fun I=>((mH z).bind fun J=>((mH C).bind fun S=>((sJ G).bind fun U=>((sN H).bind fun X=>((loop (fun s=>mF I J S U X s.1 s.2) ([],0)).bind fun t=>sR a0 t)))))
def tC (a0:(List Int)) (h:(List Int)) (z:(List Int)) (C:(List Int)) (G:(List (List UInt8))) (H:(List Nat)):Option ((List Int)) :=
  vN a0 h z C G H
def uX (h:Int) (z:(List Int)) (C:(List Int)) (G:(List Int)) (H:(List (List UInt8))) (I:(List Nat)):Option (((List Int)×(List Int)×(List Int)×(List (List UInt8))×(List Nat)×Int)⊕(((List Int)×(List Int)×(List Int)×(List (List UInt8))×(List Nat)))) :=
  ltt (IntKind.i64.wrap (h+1)) fun J=>(some (.inl (z,C,G,H,I,J)))
def vG (G:(List Int)) (H:(List Int)) (z:(List (List UInt8))) (C:(List Nat)) (I:Int) (h:S47) (J:(List Int)):Option (((List Int)×(List Int)×(List Int)×(List (List UInt8))×(List Nat)×Int)⊕(((List Int)×(List Int)×(List Int)×(List (List UInt8))×(List Nat)))) :=
  chk (z.length+[h.f3].length≤140737488355328 / 16) (chk (C.length+[h.f4].length≤140737488355328 / 8) (uX I J (G++[h.f1]) (H++[h.f2]) (z++[h.f3]) (C++[h.f4])))
def mD (a1:(List S47)) (z:(List Int)) (C:(List Int)) (G:(List Int)) (I:(List (List UInt8))) (J:(List Nat)) (H:Int):Option (((List Int)×(List Int)×(List Int)×(List (List UInt8))×(List Nat)×Int)⊕(((List Int)×(List Int)×(List Int)×(List (List UInt8))×(List Nat)))) :=
  if (decide (H<(a1.length:Int)))=true then ((at_ a1 H).bind fun h=>(ltt (IntKind.i64.wrap h.f0) fun S=>(chk (z.length+[S].length≤140737488355328 / 8) (chk (C.length+[h.f1].length≤140737488355328 / 8) (chk (G.length+[h.f2].length≤140737488355328 / 8) (vG C G I J H h (z++[S]))))))) else (some (.inr (z,C,G,I,J)))
def xZ (a0:(List Int)) (a1:(List S47)):Option ((List Int)) :=
  (loop (fun s=>mD a1 s.1 s.2.1 s.2.2.1 s.2.2.2.1 s.2.2.2.2.1 s.2.2.2.2.2) ([],[],[],[],[],0)).bind fun t=>tC a0 t.1 t.2.1 t.2.2.1 t.2.2.2.1 t.2.2.2.2
end
section
variable {r:World} {L:List HP} {w:World} {Z:Nat→Prop} {wz:World}
theorem aJc {a0 a1 A0 n0 c0 A1 n1 c1 y} (G:xZ a0 a1=some y) (X:SH r (own (kI .u8) 5 A0 n0 c0 a0::zone Z wz::L) w) (ha1:Imm Z wz k47 A1 n1 c1 a1) (hG1:Imm Z wz (kI .u32) (some ⟨1,0,none⟩) 16 16 cX) :
  Ret Tryz.prog 54 #[.slice A0 n0 c0,.slice A1 n1 c1] w fun v w'=>∃ (Z':Nat→Prop) (wz':World) (B0:Option Addr) (m0:Nat) (d0:Nat),v=.slice B0 m0 d0∧Sub Z wz Z' wz'∧SH r (own (kI .u8) 5 B0 m0 d0 y::zone Z' wz'::L) w':=by
 refine enter Tryz.func54 rfl Tryz.ntmps54 [(0,_),(1,_)] rfl (by simp) ?_
 intro U J Qf hQ hQn
 unfold xZ at G
 refine nz 1 J rfl fun U J=>nz 3 J rfl fun U J=>nz 1 J rfl fun U J=>nz 1 J rfl fun U J=>wp_seq_k fun P6 E1=>ws fun P7 E2=>xk 1 J rfl fun U J=>bC gO (X.imm 1 ha1 rfl).2.1 J (fun U J=>?_) rfl
 refine x_m J rfl fun U J=>wn (E2 _ _ ?_)
 refine aA fun p4 E3=>?_
 have hb1:∀l9 m1 m2 m3 m4,vN a0 l9 m1 m2 m3 m4=some y→∀m5 m6 m7 m8 m9 n3 n4 n5 n6 n7 n8 n9 o0 o1 o2 U w,FR 72 [] U [(0,.slice A0 n0 c0),(5,.slice m5 m6 m7),(6,.slice m8 m9 n3),(7,.slice n4 n5 n6),(8,.slice n7 n8 n9),(9,.slice o0 o1 o2)]→SH r (own (kI .u8) 5 A0 n0 c0 a0::own (kI .i64) 2 m5 m6 m7 l9::own (kI .i64) 2 m8 m9 n3 m1::own (kI .i64) 2 n4 n5 n6 m2::own kS 9 n7 n8 n9 m3::own kF 45 o0 o1 o2 m4::zone Z wz::L) w→p4 U w:=by
  intro l9 m1 m2 m3 m4 G m5 m6 m7 m8 m9 n3 n4 n5 n6 n7 n8 n9 o0 o1 o2 U w J X
  unfold vN at G
  refine E3 _ _ (E1 _ _ ?_)
  refine nz 1 J rfl fun U J=>wp_seq_k fun P8 E4=>ws fun P9 E5=>xk 1 J rfl fun U J=>?_
  obtain⟨f6,E6,G⟩:=bnd G
  refine x_c aP3 J rfl (qY E6 X (RdL.own 1 rfl (X.dropN 0)) :) fun v U w hR J=>?_
  obtain⟨f7,f8,f9,rfl,X⟩:=hR
  refine x_m J rfl fun U J=>?_
  obtain⟨g0,E7,G⟩:=bnd G
  refine x_c aP3 J rfl (qY E7 X (RdL.own 3 rfl (X.dropN 0)) :) fun v U w hR J=>?_
  obtain⟨g1,g2,g3,rfl,X⟩:=hR
  refine x_m J rfl fun U J=>?_
  obtain⟨g4,E8,G⟩:=bnd G
  refine x_c aP3 J rfl (qY E8 X (RdL.own 5 rfl (X.dropN 0)) :) fun v U w hR J=>?_
  obtain⟨g5,g6,g7,rfl,X⟩:=hR
  refine x_m J rfl fun U J=>?_
  obtain⟨g8,E9,G⟩:=bnd G
  refine x_c bAy J rfl (aE1 E9 X (RdL.own 7 rfl (X.dropN 0)) :) fun v U w hR J=>?_
  obtain⟨g9,h0,h1,rfl,X⟩:=hR
  refine x_m J rfl fun U J=>?_
  obtain⟨h2,F1,G⟩:=bnd G
  refine x_c bAh J rfl (aFv F1 X (RdL.own 9 rfl (X.dropN 0)) :) fun v U w hR J=>?_
  obtain⟨h3,h4,h5,rfl,X⟩:=hR
  replace X:=X.pk 11 |>.pk 5
  obtain⟨Q0,Q1,X,F2,p5⟩:=SH.freeze (n:=f8) (c:=f9) (A:=f7) X
  replace X:=X.pk 0 |>.pk 4
  obtain⟨Q2,Q3,X,F3,o3⟩:=SH.freeze (n:=g2) (c:=g3) (A:=g1) X
  have F5:=Imm.sub F2 o3
  replace X:=X.pk 0 |>.pk 3
  obtain⟨Q4,Q5,X,F6,h6⟩:=SH.freeze (n:=g6) (c:=g7) (A:=g5) X
  have F7:=Imm.sub F5 h6
  have F8:=Imm.sub F3 h6
  replace X:=X.pk 0 |>.pk 2
  obtain⟨Q6,Q7,X,F9,d3⟩:=SH.freeze (n:=h0) (c:=h1) (A:=g9) X
  have G0:=Imm.sub F7 d3
  have G1:=Imm.sub F8 d3
  have G2:=Imm.sub F6 d3
  replace X:=X.pk 0 |>.pk 1
  obtain⟨b3,b4,X,G3,b5⟩:=SH.freeze (n:=h4) (c:=h5) (A:=h3) X
  have G4:=Imm.sub G0 b5
  have G5:=Imm.sub G1 b5
  have G6:=Imm.sub G2 b5
  have G7:=Imm.sub F9 b5
  refine iV (d:=(kM b3 b4 (kI .u8))) (e:=32) (ps:=#[(0,.slice f7 f8 f9),(1,.slice g1 g2 g3),(2,.slice g5 g6 g7),(3,.slice g9 h0 h1),(4,.slice h3 h4 h5)]) (cells:=[.slice f7 f8 f9,.slice g1 g2 g3,.slice g5 g6 g7,.slice g9 h0 h1,.slice h3 h4 h5]) (xs:=[f6,g0,g4,g8,h2]) (fun w=>by kernel_rfl) rfl ⟨[.slice f7 f8 f9],_,rfl,⟨_,_,_,rfl,G4⟩,⟨[.slice g1 g2 g3],_,rfl,⟨_,_,_,rfl,G5⟩,⟨[.slice g5 g6 g7],_,rfl,⟨_,_,_,rfl,G6⟩,⟨[.slice g9 h0 h1],_,rfl,⟨_,_,_,rfl,G7⟩,⟨[.slice h3 h4 h5],_,rfl,⟨_,_,_,rfl,G3⟩,rfl⟩⟩⟩⟩⟩ J X (fun p6 U w X J=>?_) rfl
  refine bC aT9 (X.rd 0 rfl).2.1 J (fun U J=>?_) rfl
  refine x_m J rfl fun U J=>wn (E5 _ _ ?_)
  refine aA fun p7 G8=>?_
  have hb2:∀o4,vE a0 o4=some y→∀o5 o6 o7 U w,FR 72 [] U [(0,.slice A0 n0 c0),(12,.slice o5 o6 o7)]→SH r (own (kI .u8) 5 A0 n0 c0 a0::own (kI .u8) 5 o5 o6 o7 o4::zone b3 b4::L) w→p7 U w:=by
   intro o4 G o5 o6 o7 U w J X
   unfold vE at G
   refine G8 _ _ (E4 _ _ ?_)
   refine ws fun Q8 G9=>xk 2 J rfl fun U J=>?_
   obtain⟨Q9,H0,G⟩:=bnd G
   refine x_c bBl J rfl (aLp H0 X 1 rfl (RdL.own 0 rfl (X.dropN 1)) (Imm.sub hG1 (Sub.trans (Sub.trans (Sub.trans (Sub.trans p5 o3) h6) d3) b5)) :) fun v U w hR J=>?_
   obtain⟨H1,H2,H3,rfl,X⟩:=hR
   refine x_m J rfl fun U J=>wn (G9 _ _ ?_)
   replace X:=X.drop 1 |>.pk 1 |>.pk 1
   cases G
   refine wp_ret (hQ _ _ ?_)
   exact lv Tryz.results54 J rfl ⟨b3,b4,H1,H2,H3,rfl,(Sub.trans (Sub.trans (Sub.trans (Sub.trans p5 o3) h6) d3) b5),X⟩
  obtain⟨H4,H5,G⟩:=bnd G
  have H6:∀d4,(d4)=H4→∀h7 h8 h9 U w,FR 72 [] U [(0,.slice A0 n0 c0),(12,.slice h7 h8 h9)]→SH r (own (kI .u8) 5 A0 n0 c0 a0::own (kI .u8) 5 h7 h8 h9 d4::zone b3 b4::L) w→p7 U w:=by
   intro d4 ht h7 h8 h9 U w J X
   subst ht
   replace G:sR a0 d4=some y:=G
   unfold sR at G
   exact hb2 d4 G h7 h8 h9 U w (J.sub _ rfl) X
  replace X:=(SH.nil_own (d:=(kI .u8)) (e:=5) X).drop 4 |>.drop 4 |>.drop 4 |>.drop 4 |>.drop 4 |>.pk 2 |>.pk 2 |>.pk 2 |>.pk 3
  refine aE H5 (fun s U w=>∃i0 i1 i2,FR 72 [] U [(0,.slice A0 n0 c0),(12,.slice i0 i1 i2),(58,.slice (some ⟨p6,0,none⟩) 5 5),(59,.int .i64 ([f6,g0,g4,g8,h2].length:Int)),(60,.int .i64 s.2)]∧SH r (own (kI .u8) 5 A0 n0 c0 a0::own (kI .u8) 5 i0 i1 i2 s.1::own (kM b3 b4 (kI .u8)) 32 (some ⟨p6,0,none⟩) 5 5 [f6,g0,g4,g8,h2]::zone b3 b4::L) w) ⟨none,0,0,J.sub _ rfl,X⟩ ?_
  intro R0 H7 H8 G H9 I0 U w hLab
  obtain⟨p8,I1⟩:=H7
  replace G:mF f6 g0 g4 g8 h2 p8 I1=some H8:=G
  unfold mF at G
  try dsimp only at hLab
  obtain⟨i0,i1,i2,J,X⟩:=hLab
  refine nz 1 J rfl fun U J=>wp_seq_k fun R1 I2=>bH J G rfl (fun I3 G=>?_) fun I3 G=>?_
  ·refine wp_skip (I2 _ _ ?_)
   refine wp_seq_k fun R2 I4=>aA fun R3 I5=>ws fun R4 I6=>?_
   obtain⟨R5,p9,G⟩:=bnd G
   refine fR aT9 aCt (X.rd 2 rfl) p9 J (fun U J=>?_) rfl
   obtain⟨cs,hV,I7⟩:=el (X.rd 2 rfl) p9
   obtain⟨R6,R7,R8,rfl,I8⟩:=hV
   refine aK fC (I7 0 _ rfl) J (fun U J=>?_) rfl
   refine x_m J rfl fun U J=>wn (I6 _ _ ?_)
   refine aC (xk 2 J rfl fun U J=>?_)
   refine aQt fC uu5 uu9 (X.imm 3 I8 rfl) J (fun U J=>?_) rfl
   replace X:=X.pk 1
   obtain⟨R9,I9,G⟩:=bnd G
   refine x_c aY4 J rfl (aAt I9 X :) fun v U w hR J=>?_
   obtain⟨J0,J1,J2,rfl,X⟩:=hR
   refine x_m J rfl fun U J=>wpList_nil (I5 _ _ ?_)
   refine I4 _ _ (aC ?_)
   refine x_l G J rfl fun S0 _ U J G=>x_m J rfl fun U J=>wpList_nil ?_
   replace X:=X.pk 3 |>.pk 3 |>.pk 2 |>.pk 3
   cases G
   exact⟨_,H9 _ rfl,J0,J1,J2,J.sub _ rfl,X⟩
  replace X:=X.drop 2
  cases G
  exact wp_exit (H6 p8 (I0 _ rfl) i0 i1 i2 U w (J.sub _ rfl) X)
 obtain⟨J3,J4,G⟩:=bnd G
 have J5:∀d5 d6 d7 d8 d9,(d5,d6,d7,d8,d9)=J3→∀i3 i4 i5 i6 i7 i8 i9 j0 j1 j2 j3 j4 j5 j6 j7 U w,FR 72 [] U [(0,.slice A0 n0 c0),(5,.slice i3 i4 i5),(6,.slice i6 i7 i8),(7,.slice i9 j0 j1),(8,.slice j2 j3 j4),(9,.slice j5 j6 j7)]→SH r (own (kI .u8) 5 A0 n0 c0 a0::own (kI .i64) 2 i3 i4 i5 d5::own (kI .i64) 2 i6 i7 i8 d6::own (kI .i64) 2 i9 j0 j1 d7::own kS 9 j2 j3 j4 d8::own kF 45 j5 j6 j7 d9::zone Z wz::L) w→p4 U w:=by
  intro d5 d6 d7 d8 d9 ht i3 i4 i5 i6 i7 i8 i9 j0 j1 j2 j3 j4 j5 j6 j7 U w J X
  subst ht
  replace G:tC a0 d5 d6 d7 d8 d9=some y:=G
  unfold tC at G
  exact hb1 d5 d6 d7 d8 d9 G i3 i4 i5 i6 i7 i8 i9 j0 j1 j2 j3 j4 j5 j6 j7 U w (J.sub _ rfl) X
 replace X:=(SH.nil_own (d:=kF) (e:=45) (SH.nil_own (d:=kS) (e:=9) (SH.nil_own (d:=(kI .i64)) (e:=2) (SH.nil_own (d:=(kI .i64)) (e:=2) (SH.nil_own (d:=(kI .i64)) (e:=2) X))))).pk 6 |>.pk 1 |>.pk 2 |>.pk 3 |>.pk 4 |>.pk 5 |>.pk 6
 refine aE J4 (fun s U w=>∃e0 e1 e2 e3 e4 e5 e6 e7 e8 I S Y a2 a3 a4,FR 72 [] U [(0,.slice A0 n0 c0),(5,.slice e0 e1 e2),(6,.slice e3 e4 e5),(7,.slice e6 e7 e8),(8,.slice I S Y),(9,.slice a2 a3 a4),(15,.slice A1 n1 c1),(16,.int .i64 (a1.length:Int)),(17,.int .i64 s.2.2.2.2.2)]∧SH r (own (kI .u8) 5 A0 n0 c0 a0::own (kI .i64) 2 e0 e1 e2 s.1::own (kI .i64) 2 e3 e4 e5 s.2.1::own (kI .i64) 2 e6 e7 e8 s.2.2.1::own kS 9 I S Y s.2.2.2.1::own kF 45 a2 a3 a4 s.2.2.2.2.1::zone Z wz::L) w) ⟨none,0,0,none,0,0,none,0,0,none,0,0,none,0,0,J.sub _ rfl,X⟩ ?_
 intro S1 J6 o8 G J7 J8 U w hLab
 obtain⟨H,a5,a6,a7,a8,e9⟩:=J6
 replace G:mD a1 H a5 a6 a7 a8 e9=some o8:=G
 unfold mD at G
 try dsimp only at hLab
 obtain⟨e0,e1,e2,e3,e4,e5,e6,e7,e8,I,S,Y,a2,a3,a4,J,X⟩:=hLab
 refine nz 1 J rfl fun U J=>wp_seq_k fun S2 J9=>bH J G rfl (fun K0 G=>?_) fun K0 G=>?_
 ·refine wp_skip (J9 _ _ ?_)
  refine wp_seq_k fun S3 K1=>aA fun K2 K3=>?_
  have hb3:∀o9 p0 p1 p2 p3,uX e9 o9 p0 p1 p2 p3=some o8→∀j8 j9 k0 k1 k2 k3 k4 k5 k6 k7 k8 k9 l0 l1 l2 U w,FR 72 [] U [(0,.slice A0 n0 c0),(5,.slice j8 j9 k0),(6,.slice k1 k2 k3),(7,.slice k4 k5 k6),(8,.slice k7 k8 k9),(9,.slice l0 l1 l2),(15,.slice A1 n1 c1),(16,.int .i64 (a1.length:Int)),(17,.int .i64 e9)]→SH r (own (kI .u8) 5 A0 n0 c0 a0::own (kI .i64) 2 j8 j9 k0 o9::own (kI .i64) 2 k1 k2 k3 p0::own (kI .i64) 2 k4 k5 k6 p1::own kS 9 k7 k8 k9 p2::own kF 45 l0 l1 l2 p3::zone Z wz::L) w→K2 U w:=by
   intro o9 p0 p1 p2 p3 G j8 j9 k0 k1 k2 k3 k4 k5 k6 k7 k8 k9 l0 l1 l2 U w J X
   unfold uX at G
   refine K3 _ _ (K1 _ _ ?_)
   refine aC (x_l G J rfl fun S4 _ U J G=>?_)
   refine x_m J rfl fun U J=>wpList_nil ?_
   cases G
   exact⟨_,J7 _ rfl,j8,j9,k0,k1,k2,k3,k4,k5,k6,k7,k8,k9,l0,l1,l2,J.sub _ rfl,X⟩
  refine ws fun S5 K4=>?_
  obtain⟨z,q0,G⟩:=bnd G
  refine fR gO dI (X.imm 6 ha1 rfl) q0 J (fun U J=>?_) rfl
  obtain⟨cs,hV,K5⟩:=el (X.imm 6 ha1 rfl) q0
  obtain rfl:=hV
  refine kK (cs:=[.int .u64 z.f0,.int .i64 z.f1,.int .i64 z.f2,str z.f3,.float .f64 z.f4]) nG dI (fun j u h=>by rw [gP]; exact K5 _ _ h) J (fun U J=>?_) rfl
  refine iE (cs:=[.int .u64 0,.int .i64 0,.int .i64 0,str [],.float .f64 0]) aJb J X (fun a9 U w X J=>?_) rfl
  refine dH 0 dI J X rfl (fun  U w X J=>?_) rfl
  refine wn (K4 _ _ ?_)
  refine wp_seq_k fun K6 K7=>?_
  have hj1:∀b6,vG a5 a6 a7 a8 e9 z b6=some o8→∀b7 b8 b9 c3 c4 c5 c6 c7 c8 U w,FR 72 [] U [(0,.slice A0 n0 c0),(5,.slice b7 b8 b9),(6,.slice c3 c4 c5),(7,.slice c6 c7 c8),(8,.slice I S Y),(9,.slice a2 a3 a4),(11,(pP a9)),(15,.slice A1 n1 c1),(16,.int .i64 (a1.length:Int)),(17,.int .i64 e9)]→SH r (blk a9 47 [.int .u64 z.f0,.int .i64 z.f1,.int .i64 z.f2,str z.f3,.float .f64 z.f4]::own (kI .u8) 5 A0 n0 c0 a0::own (kI .i64) 2 b7 b8 b9 b6::own (kI .i64) 2 c3 c4 c5 (a5++[z.f1])::own (kI .i64) 2 c6 c7 c8 (a6++[z.f2])::own kS 9 I S Y a7::own kF 45 a2 a3 a4 a8::zone Z wz::L) w→K6 U w:=by
   intro b6 G b7 b8 b9 c3 c4 c5 c6 c7 c8 U w J X
   unfold vG at G
   refine K7 _ _ (dE [0,0,2,6,15,0,0,64,192,511,1023,2047] [3,4,8,9] rfl J X (by kernel_rfl) (by kernel_rfl) (by kernel_rfl) (by kernel_rfl) fun w X=>?_)
   refine⟨[(0,.slice I S Y),(1,.pointer (some ⟨a9,3,none⟩)),(2,str z.f3),(5,.slice a2 a3 a4),(6,.pointer (some ⟨a9,4,none⟩)),(7,.float .f64 z.f4)],?_⟩
   refine dF [0,1,2,5,6,7] [3,8] (by kernel_rfl) ⟨pm rfl,pt [(11,_)] rfl (fun U J=>eR yX J rfl rfl),pt [(38,_)] rfl (fun U J=>cM uu9 (X.cell 0 rfl 3 _ rfl) J rfl rfl rfl),pm rfl,pt [(11,_)] rfl (fun U J=>eR aK1 J rfl rfl),pt [(43,_)] rfl (fun U J=>cM aOc (X.cell 0 rfl 4 _ rfl) J rfl rfl rfl),trivial⟩ ⟨?_,?_,trivial⟩
   ·refine et [(39,_)] rfl (fun U J K hK=>?_)
    refine gN (d:=kS) (e:=9) (ps:=#[(0,str z.f3)]) (cells:=[str z.f3]) (xs:=[z.f3]) (fun w=>by kernel_rfl) rfl ⟨[str z.f3],_,rfl,rfl,rfl⟩ J X (fun S6 w X=>?_) rfl
    refine hK _ [] _ rfl (dF [0,5,6,7] [4,8] (by kernel_rfl) ⟨pm rfl,pm rfl,pt [(11,_)] rfl (fun U J=>eR aK1 J rfl rfl),pt [(43,_)] rfl (fun U J=>cM aOc (X.cell 1 rfl 4 _ rfl) J rfl rfl rfl),trivial⟩ ⟨?_,?_,trivial⟩)
    ·refine et [(37,_),(40,_)] rfl (fun U J K hK=>?_)
     obtain⟨K8,G⟩:=aB G
     have hr:=X.rd 0 rfl
     refine cP 6 aJ7 lL J X hr.1 hr.2.1 K8 rfl (fun q1 q2 q3 w X=>?_) rfl
     refine hK _ [] _ rfl (dF [5,6,7] [8] (by kernel_rfl) ⟨pm rfl,pt [(11,_)] rfl (fun U J=>eR aK1 J rfl rfl),pt [(43,_)] rfl (fun U J=>cM aOc (X.cell 2 rfl 4 _ rfl) J rfl rfl rfl),trivial⟩ ⟨et [(44,_)] rfl (fun U J K hK=>?_),trivial⟩)
     refine gN (d:=kF) (e:=45) (ps:=#[(0,.float .f64 z.f4)]) (cells:=[.float .f64 z.f4]) (xs:=[z.f4]) (fun w=>by kernel_rfl) rfl ⟨[.float .f64 z.f4],_,rfl,rfl,rfl⟩ J X (fun S7 w X=>?_) rfl
     refine hK _ [] _ rfl (dF [5] [9] (by kernel_rfl) ⟨pm rfl,trivial⟩ ⟨et [(42,_),(45,_)] rfl (fun U J K hK=>?_),trivial⟩)
     obtain⟨K9,G⟩:=aB G
     have hr:=X.rd 0 rfl
     refine cP 8 aM7 aCe J X hr.1 hr.2.1 K9 rfl (fun q4 q5 q6 w X=>?_) rfl
     refine hK _ [(10,.slice q1 q2 q3),(11,.slice q4 q5 q6)] _ rfl (gW [10,11] (by kernel_rfl) ⟨pm rfl,pm rfl,trivial⟩ ⟨by kernel_rfl,by kernel_rfl⟩ [(0,_),(5,_),(6,_),(7,_),(8,_),(9,_),(15,_),(16,_),(17,_)] rfl (fun U J=>?_))
     replace X:=X.drop 1 |>.drop 2 |>.drop 2 |>.pk 6 |>.pk 1 |>.pk 2 |>.pk 6 |>.pk 6 |>.pk 6 |>.pk 6
     exact hb3 b6 (a5++[z.f1]) (a6++[z.f2]) (a7++[z.f3]) (a8++[z.f4]) G b7 b8 b9 c3 c4 c5 c6 c7 c8 q1 q2 q3 q4 q5 q6 U w (J.sub _ rfl) X
    ·refine et [(44,_)] rfl (fun U J K hK=>?_)
     refine gN (d:=kF) (e:=45) (ps:=#[(0,.float .f64 z.f4)]) (cells:=[.float .f64 z.f4]) (xs:=[z.f4]) (fun w=>by kernel_rfl) rfl ⟨[.float .f64 z.f4],_,rfl,rfl,rfl⟩ J X (fun S8 w X=>?_) rfl
     refine hK _ [] _ rfl (dF [0,5] [4] (by kernel_rfl) ⟨pm rfl,pm rfl,trivial⟩ ⟨et [(37,_),(40,_)] rfl (fun U J K hK=>?_),trivial⟩)
     obtain⟨L1,G⟩:=aB G
     have hr:=X.rd 1 rfl
     refine cP 7 aJ7 lL J X hr.1 hr.2.1 L1 rfl (fun q7 q8 q9 w X=>?_) rfl
     refine hK _ [] _ rfl (dF [5] [9] (by kernel_rfl) ⟨pm rfl,trivial⟩ ⟨et [(42,_),(45,_)] rfl (fun U J K hK=>?_),trivial⟩)
     obtain⟨L2,G⟩:=aB G
     have hr:=X.rd 1 rfl
     refine cP 8 aM7 aCe J X hr.1 hr.2.1 L2 rfl (fun r0 r1 r2 w X=>?_) rfl
     refine hK _ [(10,.slice q7 q8 q9),(11,.slice r0 r1 r2)] _ rfl (gW [10,11] (by kernel_rfl) ⟨pm rfl,pm rfl,trivial⟩ ⟨by kernel_rfl,by kernel_rfl⟩ [(0,_),(5,_),(6,_),(7,_),(8,_),(9,_),(15,_),(16,_),(17,_)] rfl (fun U J=>?_))
     replace X:=X.drop 2 |>.drop 2 |>.drop 2 |>.pk 6 |>.pk 1 |>.pk 2 |>.pk 6 |>.pk 6 |>.pk 6 |>.pk 6
     exact hb3 b6 (a5++[z.f1]) (a6++[z.f2]) (a7++[z.f3]) (a8++[z.f4]) G b7 b8 b9 c3 c4 c5 c6 c7 c8 q7 q8 q9 r0 r1 r2 U w (J.sub _ rfl) X
   ·refine et [(44,_)] rfl (fun U J K hK=>?_)
    refine gN (d:=kF) (e:=45) (ps:=#[(0,.float .f64 z.f4)]) (cells:=[.float .f64 z.f4]) (xs:=[z.f4]) (fun w=>by kernel_rfl) rfl ⟨[.float .f64 z.f4],_,rfl,rfl,rfl⟩ J X (fun S9 w X=>?_) rfl
    refine hK _ [] _ rfl (dF [0,1,2,5] [3] (by kernel_rfl) ⟨pm rfl,pt [(11,_)] rfl (fun U J=>eR yX J rfl rfl),pt [(38,_)] rfl (fun U J=>cM uu9 (X.cell 1 rfl 3 _ rfl) J rfl rfl rfl),pm rfl,trivial⟩ ⟨et [(39,_)] rfl (fun U J K hK=>?_),trivial⟩)
    refine gN (d:=kS) (e:=9) (ps:=#[(0,str z.f3)]) (cells:=[str z.f3]) (xs:=[z.f3]) (fun w=>by kernel_rfl) rfl ⟨[str z.f3],_,rfl,rfl,rfl⟩ J X (fun T0 w X=>?_) rfl
    refine hK _ [] _ rfl (dF [0,5] [4] (by kernel_rfl) ⟨pm rfl,pm rfl,trivial⟩ ⟨et [(37,_),(40,_)] rfl (fun U J K hK=>?_),trivial⟩)
    obtain⟨L3,G⟩:=aB G
    have hr:=X.rd 0 rfl
    refine cP 7 aJ7 lL J X hr.1 hr.2.1 L3 rfl (fun r3 r4 r5 w X=>?_) rfl
    refine hK _ [] _ rfl (dF [5] [9] (by kernel_rfl) ⟨pm rfl,trivial⟩ ⟨et [(42,_),(45,_)] rfl (fun U J K hK=>?_),trivial⟩)
    obtain⟨L4,G⟩:=aB G
    have hr:=X.rd 2 rfl
    refine cP 8 aM7 aCe J X hr.1 hr.2.1 L4 rfl (fun r6 r7 r8 w X=>?_) rfl
    refine hK _ [(10,.slice r3 r4 r5),(11,.slice r6 r7 r8)] _ rfl (gW [10,11] (by kernel_rfl) ⟨pm rfl,pm rfl,trivial⟩ ⟨by kernel_rfl,by kernel_rfl⟩ [(0,_),(5,_),(6,_),(7,_),(8,_),(9,_),(15,_),(16,_),(17,_)] rfl (fun U J=>?_))
    replace X:=X.drop 2 |>.drop 2 |>.drop 2 |>.pk 6 |>.pk 1 |>.pk 2 |>.pk 6 |>.pk 6 |>.pk 6 |>.pk 6
    exact hb3 b6 (a5++[z.f1]) (a6++[z.f2]) (a7++[z.f3]) (a8++[z.f4]) G b7 b8 b9 c3 c4 c5 c6 c7 c8 r3 r4 r5 r6 r7 r8 U w (J.sub _ rfl) X
  refine dE [0,0,2,6,14,31,0,0,128,384,1023,0,0,4096,12288,32767,65535,131071,262143] [4,5,9,10,14,15] rfl J X (by kernel_rfl) (by kernel_rfl) (by kernel_rfl) (by kernel_rfl) fun w X=>?_
  obtain⟨C,f5,G⟩:=nR G
  refine⟨[(0,.slice e0 e1 e2),(1,(pP a9)),(2,.int .u64 z.f0),(3,.int .i64 C),(6,.slice e3 e4 e5),(7,.pointer (some ⟨a9,1,none⟩)),(8,.int .i64 z.f1),(11,.slice e6 e7 e8),(12,.pointer (some ⟨a9,2,none⟩)),(13,.int .i64 z.f2)],?_⟩
  refine dF [0,1,2,3,6,7,8,11,12,13] [4,9,14] (by kernel_rfl) ⟨pm rfl,pt [(11,_)] rfl (fun U J=>eR yH J rfl rfl),pt [(22,_)] rfl (fun U J=>cM nH (X.cell 0 rfl 0 _ rfl) J rfl rfl rfl),pt [(23,_)] rfl fun U J=>kR f5 (aX nH uu2 rfl (J.ev rfl)),pm rfl,pt [(11,_)] rfl (fun U J=>eR tL J rfl rfl),pt [(28,_)] rfl (fun U J=>cM uu3 (X.cell 0 rfl 1 _ rfl) J rfl rfl rfl),pm rfl,pt [(11,_)] rfl (fun U J=>eR mP J rfl rfl),pt [(33,_)] rfl (fun U J=>cM uu2 (X.cell 0 rfl 2 _ rfl) J rfl rfl rfl),trivial⟩ ⟨?_,?_,?_,trivial⟩
  ·refine et [(24,_)] rfl (fun U J K hK=>?_)
   refine gN (d:=(kI .i64)) (e:=2) (ps:=#[(0,.int .i64 C)]) (cells:=[.int .i64 C]) (xs:=[C]) (fun w=>by kernel_rfl) rfl ⟨[.int .i64 C],_,rfl,rfl,rfl⟩ J X (fun T1 w X=>?_) rfl
   refine hK _ [] _ rfl (dF [0,6,7,8,11,12,13] [5,9,14] (by kernel_rfl) ⟨pm rfl,pm rfl,pt [(11,_)] rfl (fun U J=>eR tL J rfl rfl),pt [(28,_)] rfl (fun U J=>cM uu3 (X.cell 1 rfl 1 _ rfl) J rfl rfl rfl),pm rfl,pt [(11,_)] rfl (fun U J=>eR mP J rfl rfl),pt [(33,_)] rfl (fun U J=>cM uu2 (X.cell 1 rfl 2 _ rfl) J rfl rfl rfl),trivial⟩ ⟨?_,?_,?_,trivial⟩)
   ·refine et [(21,_),(25,_)] rfl (fun U J K hK=>?_)
    obtain⟨L5,G⟩:=aB G
    have hr:=X.rd 0 rfl
    refine cP 3 kY bM J X hr.1 hr.2.1 L5 rfl (fun c9 d1 d2 w X=>?_) rfl
    refine hK _ [] _ rfl (dF [6,7,8,11,12,13] [9,14] (by kernel_rfl) ⟨pm rfl,pt [(11,_)] rfl (fun U J=>eR tL J rfl rfl),pt [(28,_)] rfl (fun U J=>cM uu3 (X.cell 2 rfl 1 _ rfl) J rfl rfl rfl),pm rfl,pt [(11,_)] rfl (fun U J=>eR mP J rfl rfl),pt [(33,_)] rfl (fun U J=>cM uu2 (X.cell 2 rfl 2 _ rfl) J rfl rfl rfl),trivial⟩ ⟨?_,?_,trivial⟩)
    ·refine et [(29,_)] rfl (fun U J K hK=>?_)
     refine gN (d:=(kI .i64)) (e:=2) (ps:=#[(0,.int .i64 z.f1)]) (cells:=[.int .i64 z.f1]) (xs:=[z.f1]) (fun w=>by kernel_rfl) rfl ⟨[.int .i64 z.f1],_,rfl,rfl,rfl⟩ J X (fun T2 w X=>?_) rfl
     refine hK _ [] _ rfl (dF [6,11,12,13] [10,14] (by kernel_rfl) ⟨pm rfl,pm rfl,pt [(11,_)] rfl (fun U J=>eR mP J rfl rfl),pt [(33,_)] rfl (fun U J=>cM uu2 (X.cell 3 rfl 2 _ rfl) J rfl rfl rfl),trivial⟩ ⟨?_,?_,trivial⟩)
     ·refine et [(27,_),(30,_)] rfl (fun U J K hK=>?_)
      obtain⟨L6,G⟩:=aB G
      have hr:=X.rd 0 rfl
      refine cP 5 kY bM J X hr.1 hr.2.1 L6 rfl (fun r9 s2 s3 w X=>?_) rfl
      refine hK _ [] _ rfl (dF [11,12,13] [14] (by kernel_rfl) ⟨pm rfl,pt [(11,_)] rfl (fun U J=>eR mP J rfl rfl),pt [(33,_)] rfl (fun U J=>cM uu2 (X.cell 4 rfl 2 _ rfl) J rfl rfl rfl),trivial⟩ ⟨et [(34,_)] rfl (fun U J K hK=>?_),trivial⟩)
      refine gN (d:=(kI .i64)) (e:=2) (ps:=#[(0,.int .i64 z.f2)]) (cells:=[.int .i64 z.f2]) (xs:=[z.f2]) (fun w=>by kernel_rfl) rfl ⟨[.int .i64 z.f2],_,rfl,rfl,rfl⟩ J X (fun T3 w X=>?_) rfl
      refine hK _ [] _ rfl (dF [11] [15] (by kernel_rfl) ⟨pm rfl,trivial⟩ ⟨et [(32,_),(35,_)] rfl (fun U J K hK=>?_),trivial⟩)
      obtain⟨L7,G⟩:=aB G
      have hr:=X.rd 0 rfl
      refine cP 7 kY bM J X hr.1 hr.2.1 L7 rfl (fun s4 s5 s6 w X=>?_) rfl
      refine hK _ [(16,.slice c9 d1 d2),(17,.slice r9 s2 s3),(18,.slice s4 s5 s6)] _ rfl (gW [16,17,18] (by kernel_rfl) ⟨pm rfl,pm rfl,pm rfl,trivial⟩ ⟨by kernel_rfl,by kernel_rfl⟩ [(0,_),(5,_),(6,_),(7,_),(8,_),(9,_),(11,_),(15,_),(16,_),(17,_)] rfl (fun U J=>?_))
      replace X:=X.drop 1 |>.drop 2 |>.drop 3 |>.pk 7 |>.pk 7 |>.pk 7 |>.pk 3 |>.pk 4 |>.pk 5 |>.pk 7 |>.pk 7
      exact hj1 (H++[C]) G c9 d1 d2 r9 s2 s3 s4 s5 s6 U w (J.sub _ rfl) X
     ·refine et [(34,_)] rfl (fun U J K hK=>?_)
      refine gN (d:=(kI .i64)) (e:=2) (ps:=#[(0,.int .i64 z.f2)]) (cells:=[.int .i64 z.f2]) (xs:=[z.f2]) (fun w=>by kernel_rfl) rfl ⟨[.int .i64 z.f2],_,rfl,rfl,rfl⟩ J X (fun T4 w X=>?_) rfl
      refine hK _ [] _ rfl (dF [6,11] [10] (by kernel_rfl) ⟨pm rfl,pm rfl,trivial⟩ ⟨et [(27,_),(30,_)] rfl (fun U J K hK=>?_),trivial⟩)
      obtain⟨L8,G⟩:=aB G
      have hr:=X.rd 1 rfl
      refine cP 6 kY bM J X hr.1 hr.2.1 L8 rfl (fun s7 s8 s9 w X=>?_) rfl
      refine hK _ [] _ rfl (dF [11] [15] (by kernel_rfl) ⟨pm rfl,trivial⟩ ⟨et [(32,_),(35,_)] rfl (fun U J K hK=>?_),trivial⟩)
      obtain⟨L9,G⟩:=aB G
      have hr:=X.rd 1 rfl
      refine cP 7 kY bM J X hr.1 hr.2.1 L9 rfl (fun t0 t1 t3 w X=>?_) rfl
      refine hK _ [(16,.slice c9 d1 d2),(17,.slice s7 s8 s9),(18,.slice t0 t1 t3)] _ rfl (gW [16,17,18] (by kernel_rfl) ⟨pm rfl,pm rfl,pm rfl,trivial⟩ ⟨by kernel_rfl,by kernel_rfl⟩ [(0,_),(5,_),(6,_),(7,_),(8,_),(9,_),(11,_),(15,_),(16,_),(17,_)] rfl (fun U J=>?_))
      replace X:=X.drop 2 |>.drop 2 |>.drop 3 |>.pk 7 |>.pk 7 |>.pk 7 |>.pk 3 |>.pk 4 |>.pk 5 |>.pk 7 |>.pk 7
      exact hj1 (H++[C]) G c9 d1 d2 s7 s8 s9 t0 t1 t3 U w (J.sub _ rfl) X
    ·refine et [(34,_)] rfl (fun U J K hK=>?_)
     refine gN (d:=(kI .i64)) (e:=2) (ps:=#[(0,.int .i64 z.f2)]) (cells:=[.int .i64 z.f2]) (xs:=[z.f2]) (fun w=>by kernel_rfl) rfl ⟨[.int .i64 z.f2],_,rfl,rfl,rfl⟩ J X (fun T5 w X=>?_) rfl
     refine hK _ [] _ rfl (dF [6,7,8,11] [9] (by kernel_rfl) ⟨pm rfl,pt [(11,_)] rfl (fun U J=>eR tL J rfl rfl),pt [(28,_)] rfl (fun U J=>cM uu3 (X.cell 3 rfl 1 _ rfl) J rfl rfl rfl),pm rfl,trivial⟩ ⟨et [(29,_)] rfl (fun U J K hK=>?_),trivial⟩)
     refine gN (d:=(kI .i64)) (e:=2) (ps:=#[(0,.int .i64 z.f1)]) (cells:=[.int .i64 z.f1]) (xs:=[z.f1]) (fun w=>by kernel_rfl) rfl ⟨[.int .i64 z.f1],_,rfl,rfl,rfl⟩ J X (fun T6 w X=>?_) rfl
     refine hK _ [] _ rfl (dF [6,11] [10] (by kernel_rfl) ⟨pm rfl,pm rfl,trivial⟩ ⟨et [(27,_),(30,_)] rfl (fun U J K hK=>?_),trivial⟩)
     obtain⟨M0,G⟩:=aB G
     have hr:=X.rd 0 rfl
     refine cP 6 kY bM J X hr.1 hr.2.1 M0 rfl (fun t4 t5 t6 w X=>?_) rfl
     refine hK _ [] _ rfl (dF [11] [15] (by kernel_rfl) ⟨pm rfl,trivial⟩ ⟨et [(32,_),(35,_)] rfl (fun U J K hK=>?_),trivial⟩)
     obtain⟨M1,G⟩:=aB G
     have hr:=X.rd 2 rfl
     refine cP 7 kY bM J X hr.1 hr.2.1 M1 rfl (fun t7 t8 t9 w X=>?_) rfl
     refine hK _ [(16,.slice c9 d1 d2),(17,.slice t4 t5 t6),(18,.slice t7 t8 t9)] _ rfl (gW [16,17,18] (by kernel_rfl) ⟨pm rfl,pm rfl,pm rfl,trivial⟩ ⟨by kernel_rfl,by kernel_rfl⟩ [(0,_),(5,_),(6,_),(7,_),(8,_),(9,_),(11,_),(15,_),(16,_),(17,_)] rfl (fun U J=>?_))
     replace X:=X.drop 2 |>.drop 2 |>.drop 3 |>.pk 7 |>.pk 7 |>.pk 7 |>.pk 3 |>.pk 4 |>.pk 5 |>.pk 7 |>.pk 7
     exact hj1 (H++[C]) G c9 d1 d2 t4 t5 t6 t7 t8 t9 U w (J.sub _ rfl) X
   ·refine et [(29,_)] rfl (fun U J K hK=>?_)
    refine gN (d:=(kI .i64)) (e:=2) (ps:=#[(0,.int .i64 z.f1)]) (cells:=[.int .i64 z.f1]) (xs:=[z.f1]) (fun w=>by kernel_rfl) rfl ⟨[.int .i64 z.f1],_,rfl,rfl,rfl⟩ J X (fun T7 w X=>?_) rfl
    refine hK _ [] _ rfl (dF [0,6,11,12,13] [5,14] (by kernel_rfl) ⟨pm rfl,pm rfl,pm rfl,pt [(11,_)] rfl (fun U J=>eR mP J rfl rfl),pt [(33,_)] rfl (fun U J=>cM uu2 (X.cell 2 rfl 2 _ rfl) J rfl rfl rfl),trivial⟩ ⟨?_,?_,trivial⟩)
    ·refine et [(21,_),(25,_)] rfl (fun U J K hK=>?_)
     obtain⟨M2,G⟩:=aB G
     have hr:=X.rd 1 rfl
     refine cP 4 kY bM J X hr.1 hr.2.1 M2 rfl (fun l3 l4 l5 w X=>?_) rfl
     refine hK _ [] _ rfl (dF [6,11,12,13] [10,14] (by kernel_rfl) ⟨pm rfl,pm rfl,pt [(11,_)] rfl (fun U J=>eR mP J rfl rfl),pt [(33,_)] rfl (fun U J=>cM uu2 (X.cell 3 rfl 2 _ rfl) J rfl rfl rfl),trivial⟩ ⟨?_,?_,trivial⟩)
     ·refine et [(27,_),(30,_)] rfl (fun U J K hK=>?_)
      obtain⟨M3,G⟩:=aB G
      have hr:=X.rd 1 rfl
      refine cP 5 kY bM J X hr.1 hr.2.1 M3 rfl (fun u0 u1 u2 w X=>?_) rfl
      refine hK _ [] _ rfl (dF [11,12,13] [14] (by kernel_rfl) ⟨pm rfl,pt [(11,_)] rfl (fun U J=>eR mP J rfl rfl),pt [(33,_)] rfl (fun U J=>cM uu2 (X.cell 4 rfl 2 _ rfl) J rfl rfl rfl),trivial⟩ ⟨et [(34,_)] rfl (fun U J K hK=>?_),trivial⟩)
      refine gN (d:=(kI .i64)) (e:=2) (ps:=#[(0,.int .i64 z.f2)]) (cells:=[.int .i64 z.f2]) (xs:=[z.f2]) (fun w=>by kernel_rfl) rfl ⟨[.int .i64 z.f2],_,rfl,rfl,rfl⟩ J X (fun T8 w X=>?_) rfl
      refine hK _ [] _ rfl (dF [11] [15] (by kernel_rfl) ⟨pm rfl,trivial⟩ ⟨et [(32,_),(35,_)] rfl (fun U J K hK=>?_),trivial⟩)
      obtain⟨M4,G⟩:=aB G
      have hr:=X.rd 0 rfl
      refine cP 7 kY bM J X hr.1 hr.2.1 M4 rfl (fun u3 u4 u5 w X=>?_) rfl
      refine hK _ [(16,.slice l3 l4 l5),(17,.slice u0 u1 u2),(18,.slice u3 u4 u5)] _ rfl (gW [16,17,18] (by kernel_rfl) ⟨pm rfl,pm rfl,pm rfl,trivial⟩ ⟨by kernel_rfl,by kernel_rfl⟩ [(0,_),(5,_),(6,_),(7,_),(8,_),(9,_),(11,_),(15,_),(16,_),(17,_)] rfl (fun U J=>?_))
      replace X:=X.drop 1 |>.drop 3 |>.drop 3 |>.pk 7 |>.pk 7 |>.pk 7 |>.pk 3 |>.pk 4 |>.pk 5 |>.pk 7 |>.pk 7
      exact hj1 (H++[C]) G l3 l4 l5 u0 u1 u2 u3 u4 u5 U w (J.sub _ rfl) X
     ·refine et [(34,_)] rfl (fun U J K hK=>?_)
      refine gN (d:=(kI .i64)) (e:=2) (ps:=#[(0,.int .i64 z.f2)]) (cells:=[.int .i64 z.f2]) (xs:=[z.f2]) (fun w=>by kernel_rfl) rfl ⟨[.int .i64 z.f2],_,rfl,rfl,rfl⟩ J X (fun T9 w X=>?_) rfl
      refine hK _ [] _ rfl (dF [6,11] [10] (by kernel_rfl) ⟨pm rfl,pm rfl,trivial⟩ ⟨et [(27,_),(30,_)] rfl (fun U J K hK=>?_),trivial⟩)
      obtain⟨M5,G⟩:=aB G
      have hr:=X.rd 2 rfl
      refine cP 6 kY bM J X hr.1 hr.2.1 M5 rfl (fun u6 u7 u9 w X=>?_) rfl
      refine hK _ [] _ rfl (dF [11] [15] (by kernel_rfl) ⟨pm rfl,trivial⟩ ⟨et [(32,_),(35,_)] rfl (fun U J K hK=>?_),trivial⟩)
      obtain⟨M6,G⟩:=aB G
      have hr:=X.rd 1 rfl
      refine cP 7 kY bM J X hr.1 hr.2.1 M6 rfl (fun v0 v1 v2 w X=>?_) rfl
      refine hK _ [(16,.slice l3 l4 l5),(17,.slice u6 u7 u9),(18,.slice v0 v1 v2)] _ rfl (gW [16,17,18] (by kernel_rfl) ⟨pm rfl,pm rfl,pm rfl,trivial⟩ ⟨by kernel_rfl,by kernel_rfl⟩ [(0,_),(5,_),(6,_),(7,_),(8,_),(9,_),(11,_),(15,_),(16,_),(17,_)] rfl (fun U J=>?_))
      replace X:=X.drop 2 |>.drop 3 |>.drop 3 |>.pk 7 |>.pk 7 |>.pk 7 |>.pk 3 |>.pk 4 |>.pk 5 |>.pk 7 |>.pk 7
      exact hj1 (H++[C]) G l3 l4 l5 u6 u7 u9 v0 v1 v2 U w (J.sub _ rfl) X
    ·refine et [(34,_)] rfl (fun U J K hK=>?_)
     refine gN (d:=(kI .i64)) (e:=2) (ps:=#[(0,.int .i64 z.f2)]) (cells:=[.int .i64 z.f2]) (xs:=[z.f2]) (fun w=>by kernel_rfl) rfl ⟨[.int .i64 z.f2],_,rfl,rfl,rfl⟩ J X (fun U0 w X=>?_) rfl
     refine hK _ [] _ rfl (dF [0,6,11] [5] (by kernel_rfl) ⟨pm rfl,pm rfl,pm rfl,trivial⟩ ⟨et [(21,_),(25,_)] rfl (fun U J K hK=>?_),trivial⟩)
     obtain⟨M7,G⟩:=aB G
     have hr:=X.rd 2 rfl
     refine cP 5 kY bM J X hr.1 hr.2.1 M7 rfl (fun v3 v4 v5 w X=>?_) rfl
     refine hK _ [] _ rfl (dF [6,11] [10] (by kernel_rfl) ⟨pm rfl,pm rfl,trivial⟩ ⟨et [(27,_),(30,_)] rfl (fun U J K hK=>?_),trivial⟩)
     obtain⟨M8,G⟩:=aB G
     have hr:=X.rd 2 rfl
     refine cP 6 kY bM J X hr.1 hr.2.1 M8 rfl (fun v6 v7 v8 w X=>?_) rfl
     refine hK _ [] _ rfl (dF [11] [15] (by kernel_rfl) ⟨pm rfl,trivial⟩ ⟨et [(32,_),(35,_)] rfl (fun U J K hK=>?_),trivial⟩)
     obtain⟨M9,G⟩:=aB G
     have hr:=X.rd 2 rfl
     refine cP 7 kY bM J X hr.1 hr.2.1 M9 rfl (fun v9 w0 w1 w X=>?_) rfl
     refine hK _ [(16,.slice v3 v4 v5),(17,.slice v6 v7 v8),(18,.slice v9 w0 w1)] _ rfl (gW [16,17,18] (by kernel_rfl) ⟨pm rfl,pm rfl,pm rfl,trivial⟩ ⟨by kernel_rfl,by kernel_rfl⟩ [(0,_),(5,_),(6,_),(7,_),(8,_),(9,_),(11,_),(15,_),(16,_),(17,_)] rfl (fun U J=>?_))
     replace X:=X.drop 3 |>.drop 3 |>.drop 3 |>.pk 7 |>.pk 7 |>.pk 7 |>.pk 3 |>.pk 4 |>.pk 5 |>.pk 7 |>.pk 7
     exact hj1 (H++[C]) G v3 v4 v5 v6 v7 v8 v9 w0 w1 U w (J.sub _ rfl) X
   ·refine et [(34,_)] rfl (fun U J K hK=>?_)
    refine gN (d:=(kI .i64)) (e:=2) (ps:=#[(0,.int .i64 z.f2)]) (cells:=[.int .i64 z.f2]) (xs:=[z.f2]) (fun w=>by kernel_rfl) rfl ⟨[.int .i64 z.f2],_,rfl,rfl,rfl⟩ J X (fun U1 w X=>?_) rfl
    refine hK _ [] _ rfl (dF [0,6,7,8,11] [5,9] (by kernel_rfl) ⟨pm rfl,pm rfl,pt [(11,_)] rfl (fun U J=>eR tL J rfl rfl),pt [(28,_)] rfl (fun U J=>cM uu3 (X.cell 2 rfl 1 _ rfl) J rfl rfl rfl),pm rfl,trivial⟩ ⟨?_,?_,trivial⟩)
    ·refine et [(21,_),(25,_)] rfl (fun U J K hK=>?_)
     obtain⟨N0,G⟩:=aB G
     have hr:=X.rd 1 rfl
     refine cP 4 kY bM J X hr.1 hr.2.1 N0 rfl (fun w2 w3 w4 w X=>?_) rfl
     refine hK _ [] _ rfl (dF [6,7,8,11] [9] (by kernel_rfl) ⟨pm rfl,pt [(11,_)] rfl (fun U J=>eR tL J rfl rfl),pt [(28,_)] rfl (fun U J=>cM uu3 (X.cell 3 rfl 1 _ rfl) J rfl rfl rfl),pm rfl,trivial⟩ ⟨et [(29,_)] rfl (fun U J K hK=>?_),trivial⟩)
     refine gN (d:=(kI .i64)) (e:=2) (ps:=#[(0,.int .i64 z.f1)]) (cells:=[.int .i64 z.f1]) (xs:=[z.f1]) (fun w=>by kernel_rfl) rfl ⟨[.int .i64 z.f1],_,rfl,rfl,rfl⟩ J X (fun U2 w X=>?_) rfl
     refine hK _ [] _ rfl (dF [6,11] [10] (by kernel_rfl) ⟨pm rfl,pm rfl,trivial⟩ ⟨et [(27,_),(30,_)] rfl (fun U J K hK=>?_),trivial⟩)
     obtain⟨N1,G⟩:=aB G
     have hr:=X.rd 0 rfl
     refine cP 6 kY bM J X hr.1 hr.2.1 N1 rfl (fun w5 w6 w7 w X=>?_) rfl
     refine hK _ [] _ rfl (dF [11] [15] (by kernel_rfl) ⟨pm rfl,trivial⟩ ⟨et [(32,_),(35,_)] rfl (fun U J K hK=>?_),trivial⟩)
     obtain⟨N2,G⟩:=aB G
     have hr:=X.rd 3 rfl
     refine cP 7 kY bM J X hr.1 hr.2.1 N2 rfl (fun w8 w9 x0 w X=>?_) rfl
     refine hK _ [(16,.slice w2 w3 w4),(17,.slice w5 w6 w7),(18,.slice w8 w9 x0)] _ rfl (gW [16,17,18] (by kernel_rfl) ⟨pm rfl,pm rfl,pm rfl,trivial⟩ ⟨by kernel_rfl,by kernel_rfl⟩ [(0,_),(5,_),(6,_),(7,_),(8,_),(9,_),(11,_),(15,_),(16,_),(17,_)] rfl (fun U J=>?_))
     replace X:=X.drop 2 |>.drop 3 |>.drop 3 |>.pk 7 |>.pk 7 |>.pk 7 |>.pk 3 |>.pk 4 |>.pk 5 |>.pk 7 |>.pk 7
     exact hj1 (H++[C]) G w2 w3 w4 w5 w6 w7 w8 w9 x0 U w (J.sub _ rfl) X
    ·refine et [(29,_)] rfl (fun U J K hK=>?_)
     refine gN (d:=(kI .i64)) (e:=2) (ps:=#[(0,.int .i64 z.f1)]) (cells:=[.int .i64 z.f1]) (xs:=[z.f1]) (fun w=>by kernel_rfl) rfl ⟨[.int .i64 z.f1],_,rfl,rfl,rfl⟩ J X (fun U3 w X=>?_) rfl
     refine hK _ [] _ rfl (dF [0,6,11] [5] (by kernel_rfl) ⟨pm rfl,pm rfl,pm rfl,trivial⟩ ⟨et [(21,_),(25,_)] rfl (fun U J K hK=>?_),trivial⟩)
     obtain⟨N3,G⟩:=aB G
     have hr:=X.rd 2 rfl
     refine cP 5 kY bM J X hr.1 hr.2.1 N3 rfl (fun x1 x2 x3 w X=>?_) rfl
     refine hK _ [] _ rfl (dF [6,11] [10] (by kernel_rfl) ⟨pm rfl,pm rfl,trivial⟩ ⟨et [(27,_),(30,_)] rfl (fun U J K hK=>?_),trivial⟩)
     obtain⟨N4,G⟩:=aB G
     have hr:=X.rd 1 rfl
     refine cP 6 kY bM J X hr.1 hr.2.1 N4 rfl (fun x4 x5 x6 w X=>?_) rfl
     refine hK _ [] _ rfl (dF [11] [15] (by kernel_rfl) ⟨pm rfl,trivial⟩ ⟨et [(32,_),(35,_)] rfl (fun U J K hK=>?_),trivial⟩)
     obtain⟨N5,G⟩:=aB G
     have hr:=X.rd 3 rfl
     refine cP 7 kY bM J X hr.1 hr.2.1 N5 rfl (fun x7 x8 x9 w X=>?_) rfl
     refine hK _ [(16,.slice x1 x2 x3),(17,.slice x4 x5 x6),(18,.slice x7 x8 x9)] _ rfl (gW [16,17,18] (by kernel_rfl) ⟨pm rfl,pm rfl,pm rfl,trivial⟩ ⟨by kernel_rfl,by kernel_rfl⟩ [(0,_),(5,_),(6,_),(7,_),(8,_),(9,_),(11,_),(15,_),(16,_),(17,_)] rfl (fun U J=>?_))
     replace X:=X.drop 3 |>.drop 3 |>.drop 3 |>.pk 7 |>.pk 7 |>.pk 7 |>.pk 3 |>.pk 4 |>.pk 5 |>.pk 7 |>.pk 7
     exact hj1 (H++[C]) G x1 x2 x3 x4 x5 x6 x7 x8 x9 U w (J.sub _ rfl) X
  ·refine et [(29,_)] rfl (fun U J K hK=>?_)
   refine gN (d:=(kI .i64)) (e:=2) (ps:=#[(0,.int .i64 z.f1)]) (cells:=[.int .i64 z.f1]) (xs:=[z.f1]) (fun w=>by kernel_rfl) rfl ⟨[.int .i64 z.f1],_,rfl,rfl,rfl⟩ J X (fun U4 w X=>?_) rfl
   refine hK _ [] _ rfl (dF [0,1,2,3,6,11,12,13] [4,14] (by kernel_rfl) ⟨pm rfl,pt [(11,_)] rfl (fun U J=>eR yH J rfl rfl),pt [(22,_)] rfl (fun U J=>cM nH (X.cell 1 rfl 0 _ rfl) J rfl rfl rfl),pt [(23,_)] rfl fun U J=>kR f5 (aX nH uu2 rfl (J.ev rfl)),pm rfl,pm rfl,pt [(11,_)] rfl (fun U J=>eR mP J rfl rfl),pt [(33,_)] rfl (fun U J=>cM uu2 (X.cell 1 rfl 2 _ rfl) J rfl rfl rfl),trivial⟩ ⟨?_,?_,trivial⟩)
   ·refine et [(24,_)] rfl (fun U J K hK=>?_)
    refine gN (d:=(kI .i64)) (e:=2) (ps:=#[(0,.int .i64 C)]) (cells:=[.int .i64 C]) (xs:=[C]) (fun w=>by kernel_rfl) rfl ⟨[.int .i64 C],_,rfl,rfl,rfl⟩ J X (fun U5 w X=>?_) rfl
    refine hK _ [] _ rfl (dF [0,6,11,12,13] [5,14] (by kernel_rfl) ⟨pm rfl,pm rfl,pm rfl,pt [(11,_)] rfl (fun U J=>eR mP J rfl rfl),pt [(33,_)] rfl (fun U J=>cM uu2 (X.cell 2 rfl 2 _ rfl) J rfl rfl rfl),trivial⟩ ⟨?_,?_,trivial⟩)
    ·refine et [(21,_),(25,_)] rfl (fun U J K hK=>?_)
     obtain⟨N6,G⟩:=aB G
     have hr:=X.rd 0 rfl
     refine cP 4 kY bM J X hr.1 hr.2.1 N6 rfl (fun l6 l7 l8 w X=>?_) rfl
     refine hK _ [] _ rfl (dF [6,11,12,13] [10,14] (by kernel_rfl) ⟨pm rfl,pm rfl,pt [(11,_)] rfl (fun U J=>eR mP J rfl rfl),pt [(33,_)] rfl (fun U J=>cM uu2 (X.cell 3 rfl 2 _ rfl) J rfl rfl rfl),trivial⟩ ⟨?_,?_,trivial⟩)
     ·refine et [(27,_),(30,_)] rfl (fun U J K hK=>?_)
      obtain⟨N7,G⟩:=aB G
      have hr:=X.rd 2 rfl
      refine cP 5 kY bM J X hr.1 hr.2.1 N7 rfl (fun y0 y1 y2 w X=>?_) rfl
      refine hK _ [] _ rfl (dF [11,12,13] [14] (by kernel_rfl) ⟨pm rfl,pt [(11,_)] rfl (fun U J=>eR mP J rfl rfl),pt [(33,_)] rfl (fun U J=>cM uu2 (X.cell 4 rfl 2 _ rfl) J rfl rfl rfl),trivial⟩ ⟨et [(34,_)] rfl (fun U J K hK=>?_),trivial⟩)
      refine gN (d:=(kI .i64)) (e:=2) (ps:=#[(0,.int .i64 z.f2)]) (cells:=[.int .i64 z.f2]) (xs:=[z.f2]) (fun w=>by kernel_rfl) rfl ⟨[.int .i64 z.f2],_,rfl,rfl,rfl⟩ J X (fun U6 w X=>?_) rfl
      refine hK _ [] _ rfl (dF [11] [15] (by kernel_rfl) ⟨pm rfl,trivial⟩ ⟨et [(32,_),(35,_)] rfl (fun U J K hK=>?_),trivial⟩)
      obtain⟨N8,G⟩:=aB G
      have hr:=X.rd 0 rfl
      refine cP 7 kY bM J X hr.1 hr.2.1 N8 rfl (fun y3 y4 y5 w X=>?_) rfl
      refine hK _ [(16,.slice l6 l7 l8),(17,.slice y0 y1 y2),(18,.slice y3 y4 y5)] _ rfl (gW [16,17,18] (by kernel_rfl) ⟨pm rfl,pm rfl,pm rfl,trivial⟩ ⟨by kernel_rfl,by kernel_rfl⟩ [(0,_),(5,_),(6,_),(7,_),(8,_),(9,_),(11,_),(15,_),(16,_),(17,_)] rfl (fun U J=>?_))
      replace X:=X.drop 1 |>.drop 3 |>.drop 3 |>.pk 7 |>.pk 7 |>.pk 7 |>.pk 3 |>.pk 4 |>.pk 5 |>.pk 7 |>.pk 7
      exact hj1 (H++[C]) G l6 l7 l8 y0 y1 y2 y3 y4 y5 U w (J.sub _ rfl) X
     ·refine et [(34,_)] rfl (fun U J K hK=>?_)
      refine gN (d:=(kI .i64)) (e:=2) (ps:=#[(0,.int .i64 z.f2)]) (cells:=[.int .i64 z.f2]) (xs:=[z.f2]) (fun w=>by kernel_rfl) rfl ⟨[.int .i64 z.f2],_,rfl,rfl,rfl⟩ J X (fun U7 w X=>?_) rfl
      refine hK _ [] _ rfl (dF [6,11] [10] (by kernel_rfl) ⟨pm rfl,pm rfl,trivial⟩ ⟨et [(27,_),(30,_)] rfl (fun U J K hK=>?_),trivial⟩)
      obtain⟨N9,G⟩:=aB G
      have hr:=X.rd 3 rfl
      refine cP 6 kY bM J X hr.1 hr.2.1 N9 rfl (fun y6 y7 y8 w X=>?_) rfl
      refine hK _ [] _ rfl (dF [11] [15] (by kernel_rfl) ⟨pm rfl,trivial⟩ ⟨et [(32,_),(35,_)] rfl (fun U J K hK=>?_),trivial⟩)
      obtain⟨O0,G⟩:=aB G
      have hr:=X.rd 1 rfl
      refine cP 7 kY bM J X hr.1 hr.2.1 O0 rfl (fun y9 z0 z1 w X=>?_) rfl
      refine hK _ [(16,.slice l6 l7 l8),(17,.slice y6 y7 y8),(18,.slice y9 z0 z1)] _ rfl (gW [16,17,18] (by kernel_rfl) ⟨pm rfl,pm rfl,pm rfl,trivial⟩ ⟨by kernel_rfl,by kernel_rfl⟩ [(0,_),(5,_),(6,_),(7,_),(8,_),(9,_),(11,_),(15,_),(16,_),(17,_)] rfl (fun U J=>?_))
      replace X:=X.drop 2 |>.drop 3 |>.drop 3 |>.pk 7 |>.pk 7 |>.pk 7 |>.pk 3 |>.pk 4 |>.pk 5 |>.pk 7 |>.pk 7
      exact hj1 (H++[C]) G l6 l7 l8 y6 y7 y8 y9 z0 z1 U w (J.sub _ rfl) X
    ·refine et [(34,_)] rfl (fun U J K hK=>?_)
     refine gN (d:=(kI .i64)) (e:=2) (ps:=#[(0,.int .i64 z.f2)]) (cells:=[.int .i64 z.f2]) (xs:=[z.f2]) (fun w=>by kernel_rfl) rfl ⟨[.int .i64 z.f2],_,rfl,rfl,rfl⟩ J X (fun U8 w X=>?_) rfl
     refine hK _ [] _ rfl (dF [0,6,11] [5] (by kernel_rfl) ⟨pm rfl,pm rfl,pm rfl,trivial⟩ ⟨et [(21,_),(25,_)] rfl (fun U J K hK=>?_),trivial⟩)
     obtain⟨O1,G⟩:=aB G
     have hr:=X.rd 1 rfl
     refine cP 5 kY bM J X hr.1 hr.2.1 O1 rfl (fun z2 z3 z4 w X=>?_) rfl
     refine hK _ [] _ rfl (dF [6,11] [10] (by kernel_rfl) ⟨pm rfl,pm rfl,trivial⟩ ⟨et [(27,_),(30,_)] rfl (fun U J K hK=>?_),trivial⟩)
     obtain⟨O2,G⟩:=aB G
     have hr:=X.rd 3 rfl
     refine cP 6 kY bM J X hr.1 hr.2.1 O2 rfl (fun z5 z6 z7 w X=>?_) rfl
     refine hK _ [] _ rfl (dF [11] [15] (by kernel_rfl) ⟨pm rfl,trivial⟩ ⟨et [(32,_),(35,_)] rfl (fun U J K hK=>?_),trivial⟩)
     obtain⟨O3,G⟩:=aB G
     have hr:=X.rd 2 rfl
     refine cP 7 kY bM J X hr.1 hr.2.1 O3 rfl (fun z8 z9 A3 w X=>?_) rfl
     refine hK _ [(16,.slice z2 z3 z4),(17,.slice z5 z6 z7),(18,.slice z8 z9 A3)] _ rfl (gW [16,17,18] (by kernel_rfl) ⟨pm rfl,pm rfl,pm rfl,trivial⟩ ⟨by kernel_rfl,by kernel_rfl⟩ [(0,_),(5,_),(6,_),(7,_),(8,_),(9,_),(11,_),(15,_),(16,_),(17,_)] rfl (fun U J=>?_))
     replace X:=X.drop 3 |>.drop 3 |>.drop 3 |>.pk 7 |>.pk 7 |>.pk 7 |>.pk 3 |>.pk 4 |>.pk 5 |>.pk 7 |>.pk 7
     exact hj1 (H++[C]) G z2 z3 z4 z5 z6 z7 z8 z9 A3 U w (J.sub _ rfl) X
   ·refine et [(34,_)] rfl (fun U J K hK=>?_)
    refine gN (d:=(kI .i64)) (e:=2) (ps:=#[(0,.int .i64 z.f2)]) (cells:=[.int .i64 z.f2]) (xs:=[z.f2]) (fun w=>by kernel_rfl) rfl ⟨[.int .i64 z.f2],_,rfl,rfl,rfl⟩ J X (fun U9 w X=>?_) rfl
    refine hK _ [] _ rfl (dF [0,1,2,3,6,11] [4] (by kernel_rfl) ⟨pm rfl,pt [(11,_)] rfl (fun U J=>eR yH J rfl rfl),pt [(22,_)] rfl (fun U J=>cM nH (X.cell 2 rfl 0 _ rfl) J rfl rfl rfl),pt [(23,_)] rfl fun U J=>kR f5 (aX nH uu2 rfl (J.ev rfl)),pm rfl,pm rfl,trivial⟩ ⟨et [(24,_)] rfl (fun U J K hK=>?_),trivial⟩)
    refine gN (d:=(kI .i64)) (e:=2) (ps:=#[(0,.int .i64 C)]) (cells:=[.int .i64 C]) (xs:=[C]) (fun w=>by kernel_rfl) rfl ⟨[.int .i64 C],_,rfl,rfl,rfl⟩ J X (fun V0 w X=>?_) rfl
    refine hK _ [] _ rfl (dF [0,6,11] [5] (by kernel_rfl) ⟨pm rfl,pm rfl,pm rfl,trivial⟩ ⟨et [(21,_),(25,_)] rfl (fun U J K hK=>?_),trivial⟩)
    obtain⟨O4,G⟩:=aB G
    have hr:=X.rd 0 rfl
    refine cP 5 kY bM J X hr.1 hr.2.1 O4 rfl (fun A4 A5 A6 w X=>?_) rfl
    refine hK _ [] _ rfl (dF [6,11] [10] (by kernel_rfl) ⟨pm rfl,pm rfl,trivial⟩ ⟨et [(27,_),(30,_)] rfl (fun U J K hK=>?_),trivial⟩)
    obtain⟨O5,G⟩:=aB G
    have hr:=X.rd 3 rfl
    refine cP 6 kY bM J X hr.1 hr.2.1 O5 rfl (fun A7 A8 A9 w X=>?_) rfl
    refine hK _ [] _ rfl (dF [11] [15] (by kernel_rfl) ⟨pm rfl,trivial⟩ ⟨et [(32,_),(35,_)] rfl (fun U J K hK=>?_),trivial⟩)
    obtain⟨O6,G⟩:=aB G
    have hr:=X.rd 3 rfl
    refine cP 7 kY bM J X hr.1 hr.2.1 O6 rfl (fun B1 B2 B3 w X=>?_) rfl
    refine hK _ [(16,.slice A4 A5 A6),(17,.slice A7 A8 A9),(18,.slice B1 B2 B3)] _ rfl (gW [16,17,18] (by kernel_rfl) ⟨pm rfl,pm rfl,pm rfl,trivial⟩ ⟨by kernel_rfl,by kernel_rfl⟩ [(0,_),(5,_),(6,_),(7,_),(8,_),(9,_),(11,_),(15,_),(16,_),(17,_)] rfl (fun U J=>?_))
    replace X:=X.drop 3 |>.drop 3 |>.drop 3 |>.pk 7 |>.pk 7 |>.pk 7 |>.pk 3 |>.pk 4 |>.pk 5 |>.pk 7 |>.pk 7
    exact hj1 (H++[C]) G A4 A5 A6 A7 A8 A9 B1 B2 B3 U w (J.sub _ rfl) X
  ·refine et [(34,_)] rfl (fun U J K hK=>?_)
   refine gN (d:=(kI .i64)) (e:=2) (ps:=#[(0,.int .i64 z.f2)]) (cells:=[.int .i64 z.f2]) (xs:=[z.f2]) (fun w=>by kernel_rfl) rfl ⟨[.int .i64 z.f2],_,rfl,rfl,rfl⟩ J X (fun V1 w X=>?_) rfl
   refine hK _ [] _ rfl (dF [0,1,2,3,6,7,8,11] [4,9] (by kernel_rfl) ⟨pm rfl,pt [(11,_)] rfl (fun U J=>eR yH J rfl rfl),pt [(22,_)] rfl (fun U J=>cM nH (X.cell 1 rfl 0 _ rfl) J rfl rfl rfl),pt [(23,_)] rfl fun U J=>kR f5 (aX nH uu2 rfl (J.ev rfl)),pm rfl,pt [(11,_)] rfl (fun U J=>eR tL J rfl rfl),pt [(28,_)] rfl (fun U J=>cM uu3 (X.cell 1 rfl 1 _ rfl) J rfl rfl rfl),pm rfl,trivial⟩ ⟨?_,?_,trivial⟩)
   ·refine et [(24,_)] rfl (fun U J K hK=>?_)
    refine gN (d:=(kI .i64)) (e:=2) (ps:=#[(0,.int .i64 C)]) (cells:=[.int .i64 C]) (xs:=[C]) (fun w=>by kernel_rfl) rfl ⟨[.int .i64 C],_,rfl,rfl,rfl⟩ J X (fun V2 w X=>?_) rfl
    refine hK _ [] _ rfl (dF [0,6,7,8,11] [5,9] (by kernel_rfl) ⟨pm rfl,pm rfl,pt [(11,_)] rfl (fun U J=>eR tL J rfl rfl),pt [(28,_)] rfl (fun U J=>cM uu3 (X.cell 2 rfl 1 _ rfl) J rfl rfl rfl),pm rfl,trivial⟩ ⟨?_,?_,trivial⟩)
    ·refine et [(21,_),(25,_)] rfl (fun U J K hK=>?_)
     obtain⟨O7,G⟩:=aB G
     have hr:=X.rd 0 rfl
     refine cP 4 kY bM J X hr.1 hr.2.1 O7 rfl (fun B4 B5 B6 w X=>?_) rfl
     refine hK _ [] _ rfl (dF [6,7,8,11] [9] (by kernel_rfl) ⟨pm rfl,pt [(11,_)] rfl (fun U J=>eR tL J rfl rfl),pt [(28,_)] rfl (fun U J=>cM uu3 (X.cell 3 rfl 1 _ rfl) J rfl rfl rfl),pm rfl,trivial⟩ ⟨et [(29,_)] rfl (fun U J K hK=>?_),trivial⟩)
     refine gN (d:=(kI .i64)) (e:=2) (ps:=#[(0,.int .i64 z.f1)]) (cells:=[.int .i64 z.f1]) (xs:=[z.f1]) (fun w=>by kernel_rfl) rfl ⟨[.int .i64 z.f1],_,rfl,rfl,rfl⟩ J X (fun V3 w X=>?_) rfl
     refine hK _ [] _ rfl (dF [6,11] [10] (by kernel_rfl) ⟨pm rfl,pm rfl,trivial⟩ ⟨et [(27,_),(30,_)] rfl (fun U J K hK=>?_),trivial⟩)
     obtain⟨O8,G⟩:=aB G
     have hr:=X.rd 0 rfl
     refine cP 6 kY bM J X hr.1 hr.2.1 O8 rfl (fun B7 B8 B9 w X=>?_) rfl
     refine hK _ [] _ rfl (dF [11] [15] (by kernel_rfl) ⟨pm rfl,trivial⟩ ⟨et [(32,_),(35,_)] rfl (fun U J K hK=>?_),trivial⟩)
     obtain⟨O9,G⟩:=aB G
     have hr:=X.rd 4 rfl
     refine cP 7 kY bM J X hr.1 hr.2.1 O9 rfl (fun C0 C1 C2 w X=>?_) rfl
     refine hK _ [(16,.slice B4 B5 B6),(17,.slice B7 B8 B9),(18,.slice C0 C1 C2)] _ rfl (gW [16,17,18] (by kernel_rfl) ⟨pm rfl,pm rfl,pm rfl,trivial⟩ ⟨by kernel_rfl,by kernel_rfl⟩ [(0,_),(5,_),(6,_),(7,_),(8,_),(9,_),(11,_),(15,_),(16,_),(17,_)] rfl (fun U J=>?_))
     replace X:=X.drop 2 |>.drop 3 |>.drop 3 |>.pk 7 |>.pk 7 |>.pk 7 |>.pk 3 |>.pk 4 |>.pk 5 |>.pk 7 |>.pk 7
     exact hj1 (H++[C]) G B4 B5 B6 B7 B8 B9 C0 C1 C2 U w (J.sub _ rfl) X
    ·refine et [(29,_)] rfl (fun U J K hK=>?_)
     refine gN (d:=(kI .i64)) (e:=2) (ps:=#[(0,.int .i64 z.f1)]) (cells:=[.int .i64 z.f1]) (xs:=[z.f1]) (fun w=>by kernel_rfl) rfl ⟨[.int .i64 z.f1],_,rfl,rfl,rfl⟩ J X (fun V4 w X=>?_) rfl
     refine hK _ [] _ rfl (dF [0,6,11] [5] (by kernel_rfl) ⟨pm rfl,pm rfl,pm rfl,trivial⟩ ⟨et [(21,_),(25,_)] rfl (fun U J K hK=>?_),trivial⟩)
     obtain⟨P0,G⟩:=aB G
     have hr:=X.rd 1 rfl
     refine cP 5 kY bM J X hr.1 hr.2.1 P0 rfl (fun C3 C4 C5 w X=>?_) rfl
     refine hK _ [] _ rfl (dF [6,11] [10] (by kernel_rfl) ⟨pm rfl,pm rfl,trivial⟩ ⟨et [(27,_),(30,_)] rfl (fun U J K hK=>?_),trivial⟩)
     obtain⟨P1,G⟩:=aB G
     have hr:=X.rd 1 rfl
     refine cP 6 kY bM J X hr.1 hr.2.1 P1 rfl (fun C6 C7 C8 w X=>?_) rfl
     refine hK _ [] _ rfl (dF [11] [15] (by kernel_rfl) ⟨pm rfl,trivial⟩ ⟨et [(32,_),(35,_)] rfl (fun U J K hK=>?_),trivial⟩)
     obtain⟨P2,G⟩:=aB G
     have hr:=X.rd 4 rfl
     refine cP 7 kY bM J X hr.1 hr.2.1 P2 rfl (fun C9 D0 D1 w X=>?_) rfl
     refine hK _ [(16,.slice C3 C4 C5),(17,.slice C6 C7 C8),(18,.slice C9 D0 D1)] _ rfl (gW [16,17,18] (by kernel_rfl) ⟨pm rfl,pm rfl,pm rfl,trivial⟩ ⟨by kernel_rfl,by kernel_rfl⟩ [(0,_),(5,_),(6,_),(7,_),(8,_),(9,_),(11,_),(15,_),(16,_),(17,_)] rfl (fun U J=>?_))
     replace X:=X.drop 3 |>.drop 3 |>.drop 3 |>.pk 7 |>.pk 7 |>.pk 7 |>.pk 3 |>.pk 4 |>.pk 5 |>.pk 7 |>.pk 7
     exact hj1 (H++[C]) G C3 C4 C5 C6 C7 C8 C9 D0 D1 U w (J.sub _ rfl) X
   ·refine et [(29,_)] rfl (fun U J K hK=>?_)
    refine gN (d:=(kI .i64)) (e:=2) (ps:=#[(0,.int .i64 z.f1)]) (cells:=[.int .i64 z.f1]) (xs:=[z.f1]) (fun w=>by kernel_rfl) rfl ⟨[.int .i64 z.f1],_,rfl,rfl,rfl⟩ J X (fun V5 w X=>?_) rfl
    refine hK _ [] _ rfl (dF [0,1,2,3,6,11] [4] (by kernel_rfl) ⟨pm rfl,pt [(11,_)] rfl (fun U J=>eR yH J rfl rfl),pt [(22,_)] rfl (fun U J=>cM nH (X.cell 2 rfl 0 _ rfl) J rfl rfl rfl),pt [(23,_)] rfl fun U J=>kR f5 (aX nH uu2 rfl (J.ev rfl)),pm rfl,pm rfl,trivial⟩ ⟨et [(24,_)] rfl (fun U J K hK=>?_),trivial⟩)
    refine gN (d:=(kI .i64)) (e:=2) (ps:=#[(0,.int .i64 C)]) (cells:=[.int .i64 C]) (xs:=[C]) (fun w=>by kernel_rfl) rfl ⟨[.int .i64 C],_,rfl,rfl,rfl⟩ J X (fun V6 w X=>?_) rfl
    refine hK _ [] _ rfl (dF [0,6,11] [5] (by kernel_rfl) ⟨pm rfl,pm rfl,pm rfl,trivial⟩ ⟨et [(21,_),(25,_)] rfl (fun U J K hK=>?_),trivial⟩)
    obtain⟨P3,G⟩:=aB G
    have hr:=X.rd 0 rfl
    refine cP 5 kY bM J X hr.1 hr.2.1 P3 rfl (fun D2 D3 D4 w X=>?_) rfl
    refine hK _ [] _ rfl (dF [6,11] [10] (by kernel_rfl) ⟨pm rfl,pm rfl,trivial⟩ ⟨et [(27,_),(30,_)] rfl (fun U J K hK=>?_),trivial⟩)
    obtain⟨P4,G⟩:=aB G
    have hr:=X.rd 2 rfl
    refine cP 6 kY bM J X hr.1 hr.2.1 P4 rfl (fun D5 D6 D7 w X=>?_) rfl
    refine hK _ [] _ rfl (dF [11] [15] (by kernel_rfl) ⟨pm rfl,trivial⟩ ⟨et [(32,_),(35,_)] rfl (fun U J K hK=>?_),trivial⟩)
    obtain⟨P5,G⟩:=aB G
    have hr:=X.rd 4 rfl
    refine cP 7 kY bM J X hr.1 hr.2.1 P5 rfl (fun D8 D9 E0 w X=>?_) rfl
    refine hK _ [(16,.slice D2 D3 D4),(17,.slice D5 D6 D7),(18,.slice D8 D9 E0)] _ rfl (gW [16,17,18] (by kernel_rfl) ⟨pm rfl,pm rfl,pm rfl,trivial⟩ ⟨by kernel_rfl,by kernel_rfl⟩ [(0,_),(5,_),(6,_),(7,_),(8,_),(9,_),(11,_),(15,_),(16,_),(17,_)] rfl (fun U J=>?_))
    replace X:=X.drop 3 |>.drop 3 |>.drop 3 |>.pk 7 |>.pk 7 |>.pk 7 |>.pk 3 |>.pk 4 |>.pk 5 |>.pk 7 |>.pk 7
    exact hj1 (H++[C]) G D2 D3 D4 D5 D6 D7 D8 D9 E0 U w (J.sub _ rfl) X
 cases G
 exact wp_exit (J5 H a5 a6 a7 a8 (J8 _ rfl) e0 e1 e2 e3 e4 e5 e6 e7 e8 I S Y a2 a3 a4 U w (J.sub _ rfl) X)
end
end Go.Proofs.YtnefioccdkmegaaGreatDoor.M
