/- Texts of the claim, joined: what it uses of Dst0, Vb, Dst, Mst, Dev, Mev, Del. -/
import Derived.Test.YtnefioccdkmegaaGreatDoorZd
namespace Go.Proofs.YtnefioccdkmegaaGreatDoor.M
open Go Go.RowKit Go.Proofs.YtnefioccdkmegaaGreatDoor.E
noncomputable def pG (a0:List (List UInt8)):Option (List (List UInt8)):=chk (a0.length * 16≤140737488355328) (some (a0.mergeSort fun x y=>decide (x≤y)))
noncomputable def slices_Compact_string (a0:List (List UInt8)):Option (List (List UInt8)):=some (Lib.compact a0)
set_option linter.unusedVariables false
theorem aD6 {r w:World} {L:List HP} {A:Option Addr} {n c:Nat} (hS:SH r L w) :
  Ret Tryz.prog 87 #[.slice A n c] w fun v w'=>∃ g,v=.func (.func 114) #[] #[.pointer (some ⟨g,0,none⟩)]∧SH r (blk g 37 [.slice A n c]::L) w':=by
 refine enter Tryz.func87 rfl Tryz.ntmps87 [(0,_)] rfl (by simp) ?_
 intro ac hA Qf hQ hQn
 refine wp_seq_k fun K1 hK1=>?_
 refine aC ?_
 refine aGn hA hS (fun g ac w hS hA=>?_) rfl rfl rfl rfl rfl rfl
 refine kQ hA (fun ac hA=>?_) rfl rfl rfl rfl rfl
 refine wpList_nil ?_
 refine hK1 _ _ ?_
 refine wp_seq_k fun K2 hK2=>?_
 refine aC ?_
 refine iY hA (mF rfl (rU (vals:=#[]) hA rfl) (rU (vals:=#[.pointer (some ⟨g,0,none⟩)]) hA rfl)) (fun ac hA=>?_) rfl rfl rfl
 refine kQ hA (fun ac hA=>?_) rfl rfl rfl rfl rfl
 refine wpList_nil ?_
 refine hK2 _ _ ?_
 refine wp_ret ?_
 refine hQ _ _ ?_
 refine lv Tryz.results87 hA rfl ?_
 exact⟨g,rfl,hS⟩
theorem aEb {r w:World} {L:List HP} (xs:List (List UInt8)) {g:Nat} {A:Option Addr} {n c:Nat} {y:List (List UInt8)} (hF:pG xs=some y) (ha:RdL L kS A n c xs) (hS:SH r (blk g 37 [.slice A n c]::L) w) :
  Ret Tryz.prog 86 #[.func (.func 114) #[] #[.pointer (some ⟨g,0,none⟩)]] w fun v w'=>∃ (A':Option Addr) (n' c':Nat),v=.slice A' n' c'∧SH r (own kS 9 A' n' c' y::L) w':=by
 obtain⟨hsz,hF⟩:=aB hF
 cases hF
 obtain⟨S1,S2,h1,h2,hd,hA,hL⟩:=hS.head
 have hg:=hA.2
 have hgl:g<w.heap.size:=(Array.getElem?_eq_some_iff.1 hg).1
 have hln:=ha.ln
 subst hln
 refine Calls.mono (aGr g w A c xs hsz hgl (by simp [World.cell?,hg]) fun hpos=>?_) ?_
 ·obtain⟨ad,e,hr⟩:=ha.rd w S2 hL hpos
  have hc:∀ j x,xs[j]?=some x→w.cell? (ad.add j)=some (encStr x):=fun j x hx=>by
   obtain⟨cs,hV,h3⟩:=hr j x hx
   have hV':cs=[str x]:=hV
   subst hV'
   have:=h3 0 (str x) rfl
   rw [show j * kS.sz+0=j from by show j * 1+0=j; omega] at this
   exact this
  obtain⟨x,hx⟩:∃ x,xs[0]?=some x:=⟨_,List.getElem?_eq_getElem hpos⟩
  have h0:=hc 0 x hx
  obtain⟨b,off,sp⟩:=ad
  have hsp:sp=none:=by simpa [Addr.add] using World.cell?_spot h0
  subst hsp
  refine⟨b,off,e,?_,fun j x hx=>?_⟩
  ·have:w.cell? ⟨b,off,none⟩=some (encStr x):=by simpa [Addr.add] using h0
   unfold World.cell? at this
   split at this
   ·rename_i hq; exact (Array.getElem?_eq_some_iff.1 hq).1
   ·cases this
  ·have:=hc j x hx
   unfold Addr.add at this
   split at this
   ·rename_i hj; subst hj; exact this
   ·exact this
 ·rintro ev w' ⟨v,rfl,hr,_,hb⟩
  obtain⟨A',n',c',rfl,hS'⟩:=hS.tail.newrow (d:=kS) (xs:=xs.mergeSort fun x y=>decide (x≤y)) hb (by rw [List.length_mergeSort]; exact hr) (aL5 _)
  exact⟨_,rfl,A',n',c',rfl,hS'⟩
theorem aC4 {r w:World} {L:List HP} (xs:List (List UInt8)) {A:Option Addr} {n c:Nat} {y:List (List UInt8)} (hF:slices_Compact_string xs=some y) (hS:SH r (own kS 9 A n c xs::L) w) :
  Ret Tryz.prog 85 #[.slice A n c] w fun v w'=>∃ (A':Option Addr) (n' c':Nat),v=.slice A' n' c'∧SH r (own kS 9 A' n' c' y::L) w':=by
 cases hF
 obtain⟨S1,S2,h1,h2,hd,hA,hL⟩:=hS.head
 obtain⟨hn,⟨inner,hLy,ho⟩,hg⟩:=hA
 subst hn
 have hle:=zW (d:=kS) (e:=9) ⟨rfl,⟨inner,hLy,ho⟩,hg⟩
 obtain rfl:=aHj hLy
 rcases ho.2 with ⟨hv,h0⟩ | ⟨g,cap,cur,hv,hg0,hh,hnc,hcm,hs,ht⟩
 ·injection hv with e1 e2 e3
  subst e1; subst e3
  have hx:xs=[]:=List.eq_nil_of_length_eq_zero h0
  subst hx
  have cC:=Any.slices_Compact_string_empty Tryz.compactL none 0 w
  change Calls Tryz.prog 85 _ _ _ at cC
  refine cC.mono ?_
  rintro ev w' ⟨rfl,rfl⟩
  exact⟨_,rfl,none,0,0,rfl,hS⟩
 ·injection hv with e1 e2 e3
  subst e1; subst e3
  have hH:Go.Sort.Holds encStr w g 0 xs.toArray:=holds_of_block hh (by rw [show xs.length * kS.sz=xs.length from by show _ * 1=_; omega] at ht; exact ht)
  have cC:=Any.slices_Compact_string Tryz.compactL g 0 c xs w hH (by unfold maxLen at hcm; omega) hnc
  change Calls Tryz.prog 85 _ _ _ at cC
  refine cC.mono ?_
  rintro ev w' ⟨rfl,q,rfl⟩
  have hcl:(Lib.compact xs).length≤xs.length:=aDn xs
  refine⟨_,rfl,some ⟨g,0,none⟩,(Lib.compact xs).length,c,rfl,?_⟩
  have hr:=ownsRow_sorted (w:=w) (base:=0) (n:=q) (os:=#[]) (ss:=xs) (ts:=Lib.compact xs++List.replicate (xs.length - (Lib.compact xs).length) []) (by simp; omega) (Nat.zero_le _) hh hnc hcm hs
  rw [Go.Sort.grow_empty] at hr
  have hgb:=grownBy_sorted (w:=w) (g:=g) (n:=q) (os:=#[]) (Lib.compact xs++List.replicate (xs.length - (Lib.compact xs).length) ([]:List UInt8)).toArray
  rw [Go.Sort.grow_empty] at hgb
  obtain⟨q1,q2,q3,q4,q5⟩:=hgb
  refine hS.upd (Ls:=[own kS 9 (some ⟨g,0,none⟩) (Lib.compact xs).length c (Lib.compact xs)]) h1 h2 hd hL q1 q2 q3 q4 (fun k hk hnk=>q5 k hk fun e=>hnk (by cases e; exact hg g rfl)) fun S hSS _ _=>?_
  refine⟨S,fun _=>False,fun k hk=>hk,fun k hk=>hk.elim,fun k _ hk=>hk,⟨rfl,⟨_,aL5 _,?_⟩,fun k hk=>by cases hk; exact hSS g (hg g rfl)⟩,trivial⟩
  refine⟨by simp [kS],?_⟩
  rcases hr.2 with ⟨hv2,_⟩ | ⟨g2,cap2,cur2,hv2,_,hh2,hnc2,hcm2,hs2,ht2⟩
  ·cases hv2
  ·injection hv2 with e1 e2 e3
   injection e1 with e1
   injection e1 with e1
   subst e1; subst e3
   refine .inr ⟨g,c,cur2,rfl,Nat.zero_le _,hh2,by omega,hcm2,hs2,?_⟩
   have h5:=congrArg (List.take (Lib.compact xs).length) ht2
   rw [List.take_take,Nat.min_eq_left (by omega),List.map_append,List.take_left' (by simp)] at h5
   rw [show (Lib.compact xs).length * kS.sz=(Lib.compact xs).length from by show _ * 1=_; omega]
   exact h5
noncomputable section
set_option linter.unusedSimpArgs false
def mX (a0:(List UInt8)):Option (Bool) :=
  some (!(a0==a0))
def mP (a0:(List UInt8)):Option (Bool) :=
  some (!(a0==a0))
def oC (a0:(List UInt8)) (a1:(List UInt8)):Option (Bool) :=
  (mX a0).bind fun h=>(if h=true then ((mX a1).bind fun z=>(if (!z)=true then (some true) else (some (Op.bytesLess a0 a1)))) else (some (Op.bytesLess a0 a1)))
def eC (a0:(List (List UInt8))) (a1:(List UInt8)) (h:Int):Option (Int×Bool) :=
  if (decide (h<(a0.length:Int)))=true then ((at_ a0 h).bind fun z=>(if (z==a1)=true then (some (h,true)) else ((mP z).bind fun C=>(if C=true then ((mP a1).bind fun G=>(some (h,G))) else (some (h,false)))))) else (some (h,false))
def dS (a0:(List (List UInt8))) (a1:(List UInt8)) (h:Int):Option (Int×Bool) :=
  eC a0 a1 h
def cK (h:Int) (z:Int):Option ((Int×Int)⊕((Int))) :=
  some (.inl (h,z))
def bL (a0:(List (List UInt8))) (a1:(List UInt8)) (h:Int) (z:Int):Option ((Int×Int)⊕((Int))) :=
  if (decide (h<z))=true then (ltt (IntKind.i64.wrap (h+z)) fun G=>(ltt (IntKind.u64.wrap G) fun H=>(ltt (bS .u64 H 1) fun I=>(ltt (IntKind.i64.wrap I) fun C=>((at_ a0 C).bind fun J=>((oC J a1).bind fun S=>(if S=true then (ltt (IntKind.i64.wrap (C+1)) fun U=>(cK U z)) else (cK h C)))))))) else (some (.inr (h)))
def dN (a0:(List (List UInt8))) (a1:(List UInt8)):Option (Int×Bool) :=
  (loop (fun s=>bL a0 a1 s.1 s.2) (0,(a0.length:Int))).bind fun t=>dS a0 a1 t
def rD (h:(List Int)) (C:(List Int)):Option ((List Int)) :=
  (lU C).bind fun z=>(chk (h.length+z.length≤140737488355328 / 1) (some (h++z)))
def oW (h:(List Int)) (z:(List Int)):Option ((List Int)) :=
  rD h z
def iJ (a0:(List (List UInt8))) (G:(List (List UInt8))) (h:(List Int)) (z:Int):Option (((List Int)×Int)⊕(((List Int)))) :=
  if (decide (z<(a0.length:Int)))=true then ((at_ a0 z).bind fun H=>((dN G H).bind fun C=>(chk (h.length+[C.1].length≤140737488355328 / 8) (ltt (IntKind.i64.wrap (z+1)) fun I=>(some (.inl (h++[C.1],I))))))) else (some (.inr (h)))
def oD (a0:(List (List UInt8))) (h:(List (List UInt8))) (z:(List Int)):Option ((List Int)) :=
  (loop (fun s=>iJ a0 h s.1 s.2) ([],0)).bind fun t=>oW z t
def oS (a0:(List (List UInt8))) (h:(List (List UInt8))) (z:(List Int)):Option ((List Int)) :=
  oD a0 h z
def iM (z:(List (List UInt8))) (C:(List Int)) (h:Int):Option (((List Int)×Int)⊕(((List Int)))) :=
  if (decide (h<(z.length:Int)))=true then ((at_ z h).bind fun G=>((pA C G).bind fun H=>(ltt (IntKind.i64.wrap (h+1)) fun I=>(some (.inl (H,I)))))) else (some (.inr (C)))
def sS (a0:(List (List UInt8))):Option ((List Int)) :=
  (pG a0).bind fun z=>((slices_Compact_string z).bind fun h=>(ltt (IntKind.u64.wrap (h.length:Int)) fun C=>((kD [] C).bind fun G=>((loop (fun s=>iM h s.1 s.2) (G,0)).bind fun t=>oS a0 h t))))
end
set_option maxRecDepth 100000
set_option maxHeartbeats 4000000
set_option linter.unusedSimpArgs false
section
variable {r:World} {L:List HP} {w:World} {Z:Nat→Prop} {wz:World}
theorem wO {a0 y} (G:mX a0=some y) (X:SH r (L) w) :
  Ret Tryz.prog 134 #[str a0] w fun v w'=>v=.bool y∧SH r (L) w':=by
 refine enter Tryz.func134 rfl Tryz.ntmps134 [(0,_)] rfl (by simp) ?_
 intro U J Qf hQ hQn
 unfold mX at G
 refine nz 1 J rfl fun U J=>ws fun z h=>xk 2 J rfl fun U J=>x_v J (aJy rfl (J.ev rfl) (J.ev rfl)) rfl fun U J=>x_m J rfl fun U J=>wn (h _ _ ?_)
 cases G
 refine wp_ret (hQ _ _ ?_)
 exact lv Tryz.results134 J rfl ⟨rfl,X⟩
theorem tJ {a0 y} (G:mP a0=some y) (X:SH r (L) w) :
  Ret Tryz.prog 116 #[str a0] w fun v w'=>v=.bool y∧SH r (L) w':=by
 refine enter Tryz.func116 rfl Tryz.ntmps116 [(0,_)] rfl (by simp) ?_
 intro U J Qf hQ hQn
 unfold mP at G
 refine nz 1 J rfl fun U J=>ws fun z h=>xk 2 J rfl fun U J=>x_v J (aJy rfl (J.ev rfl) (J.ev rfl)) rfl fun U J=>x_m J rfl fun U J=>wn (h _ _ ?_)
 cases G
 refine wp_ret (hQ _ _ ?_)
 exact lv Tryz.results116 J rfl ⟨rfl,X⟩
theorem aB3 {a0 a1 y} (G:oC a0 a1=some y) (X:SH r (L) w) :
  Ret Tryz.prog 115 #[str a0,str a1] w fun v w'=>v=.bool y∧SH r (L) w':=by
 refine enter Tryz.func115 rfl Tryz.ntmps115 [(0,_),(1,_)] rfl (by simp) ?_
 intro U J Qf hQ hQn
 unfold oC at G
 refine nz 1 J rfl fun U J=>ws fun S C=>xk 1 J rfl fun U J=>?_
 obtain⟨Y,H,G⟩:=bnd G
 refine x_c aVf J rfl (wO H X :) fun v U w hR J=>?_
 obtain⟨rfl,X⟩:=hR
 refine x_m J rfl fun U J=>bcG G (fun h G=>?_) fun h G=>?_
 ·refine xg 1 h J rfl rfl fun U J=>aO h J ?_ rfl
  obtain⟨a2,I,G⟩:=bnd G
  refine x_c aVf J rfl (wO I X :) fun v U w hR J=>?_
  obtain⟨rfl,X⟩:=hR
  refine xg 3 h J rfl rfl fun U J=>bcG G (fun z G=>?_) fun z G=>?_
  ·refine ng 5 z J rfl rfl fun U J=>?_
   cases G
   refine C _ _ (wp_ret ?_)
   refine hQ _ _ (lv Tryz.results115 J rfl ?_)
   exact⟨rfl,X⟩
  refine xg 2 z J rfl rfl fun U J=>aO z J ?_ rfl
  refine x_v J (aG6 rfl (J.ev rfl) (J.ev rfl)) rfl fun U J=>ng 2 z J rfl rfl fun U J=>?_
  cases G
  refine C _ _ (wp_ret ?_)
  refine hQ _ _ (lv Tryz.results115 J rfl ?_)
  exact⟨rfl,X⟩
 refine xg 5 h J rfl rfl fun U J=>aO rfl J ?_ rfl
 refine x_m J rfl fun U J=>aO rfl J ?_ rfl
 refine x_m J rfl fun U J=>aO rfl J ?_ rfl
 refine x_v J (aG6 rfl (J.ev rfl) (J.ev rfl)) rfl fun U J=>cG rfl J (fun U J=>?_) rfl
 refine x_m J rfl fun U J=>wn (C _ _ ?_)
 cases G
 refine wp_ret (hQ _ _ ?_)
 exact lv Tryz.results115 J rfl ⟨rfl,X⟩
theorem qZ {a0 a1 A0 n0 c0 y} (G:dN a0 a1=some y) (X:SH r (L) w) (ha0:RdL L kS A0 n0 c0 a0) :
  Ret Tryz.prog 89 #[.slice A0 n0 c0,str a1] w fun v w'=>v=.tuple #[(.int .i64 y.1),(.bool y.2)]∧SH r (L) w':=by
 refine enter Tryz.func89 rfl Tryz.ntmps89 [(0,_),(1,_)] rfl (by simp) ?_
 intro U J Qf hQ hQn
 unfold dN at G
 refine nz 2 J rfl fun U J=>ws fun d9 a9=>xk 1 J rfl fun U J=>aX lE (X.rdl 0 ha0 rfl).2.1 J (fun U J=>?_) rfl
 refine x_m J rfl fun U J=>wn (a9 _ _ ?_)
 refine nz 3 J rfl fun U J=>wp_seq_k fun e0 b3=>aA fun a5 b4=>?_
 have hb1:∀Y,eC a0 a1 Y=some y→∀U w,FR 54 [] U [(0,.slice A0 n0 c0),(1,str a1),(6,.int .i64 (a0.length:Int)),(7,.int .i64 Y)]→SH r (L) w→a5 U w:=by
  intro Y G U w J X
  unfold eC at G
  refine b4 _ _ (b3 _ _ ?_)
  refine ws fun e1 I=>xk 5 J rfl fun U J=>bcG G (fun h G=>?_) fun h G=>?_
  ·refine xg 2 h J rfl rfl fun U J=>aO h J ?_ rfl
   obtain⟨e2,S,G⟩:=bnd G
   refine fO lE sz9 (X.rdl 0 ha0 rfl) S J (fun U J=>?_) rfl
   refine aO h J ?_ rfl
   obtain⟨cs,hV,b5⟩:=el (X.rdl 0 ha0 rfl) S
   obtain rfl:=hV
   refine aI uu9 (b5 0 _ rfl) J (fun U J=>?_) rfl
   refine xg 1 h J rfl rfl fun U J=>aO h J ?_ rfl
   refine x_v J (aRp rfl (J.ev rfl) (J.ev rfl)) rfl fun U J=>xg 1 h J rfl rfl fun U J=>bcG G (fun z G=>?_) fun z G=>?_
   ·refine xg 9 z J rfl rfl fun U J=>aO h J ?_ rfl
    refine xg 1 z J rfl rfl fun U J=>ng 3 h J rfl rfl fun U J=>?_
    cases G
    refine I _ _ (wp_ret ?_)
    refine hQ _ _ (lv2 Tryz.results89 J rfl rfl ?_)
    exact⟨rfl,X⟩
   refine xg 2 z J rfl rfl fun U J=>aO z J ?_ rfl
   refine fO lE sz9 (X.rdl 0 ha0 rfl) S J (fun U J=>?_) rfl
   refine aO z J ?_ rfl
   obtain⟨cs,hV,b6⟩:=el (X.rdl 0 ha0 rfl) S
   obtain rfl:=hV
   refine aI uu9 (b6 0 _ rfl) J (fun U J=>?_) rfl
   refine aO z J ?_ rfl
   obtain⟨e3,b7,G⟩:=bnd G
   refine x_c aVy J rfl (tJ b7 X :) fun v U w hR J=>?_
   obtain⟨rfl,X⟩:=hR
   refine xg 1 z J rfl rfl fun U J=>bcG G (fun C G=>?_) fun C G=>?_
   ·refine xg 1 C J rfl rfl fun U J=>aO C J ?_ rfl
    obtain⟨e4,b8,G⟩:=bnd G
    refine x_c aVy J rfl (tJ b8 X :) fun v U w hR J=>?_
    obtain⟨rfl,X⟩:=hR
    refine aO z J ?_ rfl
    refine xg 1 C J rfl rfl fun U J=>aO h J ?_ rfl
    refine xg 1 z J rfl rfl fun U J=>ng 3 h J rfl rfl fun U J=>?_
    cases G
    refine I _ _ (wp_ret ?_)
    refine hQ _ _ (lv2 Tryz.results89 J rfl rfl ?_)
    exact⟨rfl,X⟩
   refine xg 2 C J rfl rfl fun U J=>aO z J ?_ rfl
   refine xg 1 C J rfl rfl fun U J=>aO h J ?_ rfl
   refine xg 1 z J rfl rfl fun U J=>ng 3 h J rfl rfl fun U J=>?_
   cases G
   refine I _ _ (wp_ret ?_)
   refine hQ _ _ (lv2 Tryz.results89 J rfl rfl ?_)
   exact⟨rfl,X⟩
  refine ng 20 h J rfl rfl fun U J=>?_
  cases G
  refine I _ _ (wp_ret ?_)
  refine hQ _ _ (lv2 Tryz.results89 J rfl rfl ?_)
  exact⟨rfl,X⟩
 obtain⟨b9,c3,G⟩:=bnd G
 have c4:∀H,(H)=b9→∀U w,FR 54 [] U [(0,.slice A0 n0 c0),(1,str a1),(6,.int .i64 (a0.length:Int)),(7,.int .i64 H)]→SH r (L) w→a5 U w:=by
  intro H ht U w J X
  subst ht
  replace G:dS a0 a1 H=some y:=G
  unfold dS at G
  exact hb1 H G U w (J.sub _ rfl) X
 refine aD c3 (fun s U w=>FR 54 [] U [(0,.slice A0 n0 c0),(1,str a1),(6,.int .i64 (a0.length:Int)),(7,.int .i64 s.1),(8,.int .i64 s.2)]∧SH r (L) w) ⟨J.sub _ rfl,X⟩ ?_
 intro e5 c5 a6 G c6 c7 U w hLab
 obtain⟨a2,a7⟩:=c5
 replace G:bL a0 a1 a2 a7=some a6:=G
 unfold bL at G
 try dsimp only at hLab
 obtain⟨J,X⟩:=hLab
 refine wp_seq_k fun e6 c8=>nz 3 J rfl fun U J=>bB J G rfl (fun c9 G=>?_) fun c9 G=>?_
 ·refine wp_skip (c8 _ _ ?_)
  refine aA fun d0 d1=>?_
  have hb2:∀a3 a4,cK a3 a4=some a6→∀U w,FR 54 [] U [(0,.slice A0 n0 c0),(1,str a1),(6,.int .i64 (a0.length:Int)),(7,.int .i64 a3),(8,.int .i64 a4)]→SH r (L) w→d0 U w:=by
   intro a3 a4 G U w J X
   unfold cK at G
   cases G
   exact d1 _ _ ⟨_,c6 _ rfl,J.sub _ rfl,X⟩
  refine ws fun e7 d2=>xk 2 J rfl fun U J=>x_l G J rfl fun e8 _ U J G=>fU G J (aS uu3 aEa rfl (J.ev rfl)) rfl fun e9 _ U J G=>fU G J (qW rfl (J.ev rfl) (J.ev rfl) (by decide)) rfl fun f2 _ U J G=>fU G J (aS aEa uu3 rfl (J.ev rfl)) rfl fun d3 _ U J G=>x_m J rfl fun U J=>wn (d2 _ _ ?_)
  refine ws fun f3 d4=>xk 2 J rfl fun U J=>?_
  obtain⟨f4,a8,G⟩:=bnd G
  refine fO lE sz9 (X.rdl 0 ha0 rfl) a8 J (fun U J=>?_) rfl
  obtain⟨cs,hV,d5⟩:=el (X.rdl 0 ha0 rfl) a8
  obtain rfl:=hV
  refine aI uu9 (d5 0 _ rfl) J (fun U J=>?_) rfl
  refine x_m J rfl fun U J=>?_
  obtain⟨f5,d6,G⟩:=bnd G
  refine x_c bAd J rfl (aB3 d6 X :) fun v U w hR J=>?_
  obtain⟨rfl,X⟩:=hR
  refine wn (d4 _ _ ?_)
  refine bB J G rfl (fun d7 G=>?_) fun d7 G=>?_
  ·refine aC (x_m J rfl fun U J=>?_)
   exact x_l G J rfl fun d8 _ U J G=>x_m J rfl fun U J=>wpList_nil (hb2 d8 a7 G U w (J.sub _ rfl) X)
  refine aC (nk 2 J rfl fun U J=>?_)
  exact hb2 a2 d3 G U w (J.sub _ rfl) X
 cases G
 exact wp_exit (c4 a2 (c7 _ rfl) U w (J.sub _ rfl) X)
theorem aFi {a0 A0 n0 c0 y} (G:sS a0=some y) (X:SH r (L) w) (ha0:RdL L kS A0 n0 c0 a0) :
  Ret Tryz.prog 67 #[.slice A0 n0 c0] w fun v w'=>∃ (B0:Option Addr) (m0:Nat) (d0:Nat),v=.slice B0 m0 d0∧SH r (own (kI .u8) 5 B0 m0 d0 y::L) w':=by
 refine enter Tryz.func67 rfl Tryz.ntmps67 [(0,_)] rfl (by simp) ?_
 intro U J Qf hQ hQn
 unfold sS at G
 refine nz 1 J rfl fun U J=>ws fun j5 d4=>xk 1 J rfl fun U J=>x_c bCa J rfl (aD6 (L:=L) (A:=A0) (n:=n0) (c:=c0) X) fun v U w hR J=>?_
 obtain⟨j6,rfl,X⟩:=hR
 obtain⟨d5,d6,G⟩:=bnd G
 refine x_c bAx J rfl (aEb (L:=L) a0 d6 (RdL.sfx 0 rfl ha0) X) fun v U w hR J=>?_
 obtain⟨j7,j8,j9,rfl,X⟩:=hR
 obtain⟨h,d7,G⟩:=bnd G
 refine x_c bBi J rfl (aC4 (L:=L) d5 d7 X) fun v U w hR J=>?_
 obtain⟨z,C,H,rfl,X⟩:=hR
 refine x_m J rfl fun U J=>wn (d4 _ _ ?_)
 refine ws fun k0 d8=>xk 1 J rfl fun U J=>aX lE (X.rd 0 rfl).2.1 J (fun U J=>?_) rfl
 refine fU G J (aS uu3 mD rfl (J.ev rfl)) rfl fun k1 _ U J G=>?_
 replace X:=SH.nil_own (d:=(kI .u8)) (e:=5) X
 obtain⟨k2,d9,G⟩:=bnd G
 refine x_c aQ4 J rfl (rC d9 X :) fun v U w hR J=>?_
 obtain⟨e0,e1,e2,rfl,X⟩:=hR
 refine x_m J rfl fun U J=>wn (d8 _ _ ?_)
 refine wp_seq_k fun k3 e3=>ws fun k4 e4=>xk 1 J rfl fun U J=>aX lE (X.rd 1 rfl).2.1 J (fun U J=>?_) rfl
 refine x_m J rfl fun U J=>wn (e4 _ _ ?_)
 refine aA fun c7 e5=>?_
 have hb1:∀a1,oD a0 h a1=some y→∀I S Y U w,FR 51 [] U [(0,.slice A0 n0 c0),(3,.slice z C H),(4,.slice I S Y)]→SH r (own kS 9 z C H h::own (kI .u8) 5 I S Y a1::L) w→c7 U w:=by
  intro a1 G I S Y U w J X
  unfold oD at G
  refine e5 _ _ (e3 _ _ ?_)
  refine nz 1 J rfl fun U J=>wp_seq_k fun k5 e6=>ws fun k6 e7=>xk 1 J rfl fun U J=>aX lE (X.rdl 2 ha0 rfl).2.1 J (fun U J=>?_) rfl
  refine x_m J rfl fun U J=>wn (e7 _ _ ?_)
  refine aA fun c8 e8=>?_
  have hb2:∀c3,rD a1 c3=some y→∀c4 c5 c6 U w,FR 51 [] U [(4,.slice I S Y),(7,.slice c4 c5 c6)]→SH r (own (kI .u8) 5 I S Y a1::own (kI .i64) 2 c4 c5 c6 c3::L) w→c8 U w:=by
   intro c3 G c4 c5 c6 U w J X
   unfold rD at G
   refine e8 _ _ (e6 _ _ ?_)
   refine ws fun k7 e9=>xk 2 J rfl fun U J=>?_
   obtain⟨k8,f2,G⟩:=bnd G
   refine x_c aQc J rfl (qU f2 X (RdL.own 1 rfl (X.dropN 0)) :) fun v U w hR J=>?_
   obtain⟨k9,l0,l1,rfl,X⟩:=hR
   obtain⟨f3,G⟩:=aB G
   have hr:=X.rd 0 rfl
   refine gG 1 aC8 fC J X hr.1 hr.2.1 f3 rfl (fun f4 f5 f6 U w X J=>?_) rfl
   refine x_m J rfl fun U J=>wn (e9 _ _ ?_)
   replace X:=X.drop 1 |>.drop 1
   cases G
   refine wp_ret (hQ _ _ ?_)
   exact lv Tryz.results67 J rfl ⟨f4,f5,f6,rfl,X⟩
  obtain⟨f7,f8,G⟩:=bnd G
  have f9:∀a2,(a2)=f7→∀a4 a5 a6 U w,FR 51 [] U [(4,.slice I S Y),(7,.slice a4 a5 a6)]→SH r (own (kI .u8) 5 I S Y a1::own (kI .i64) 2 a4 a5 a6 a2::L) w→c8 U w:=by
   intro a2 ht a4 a5 a6 U w J X
   subst ht
   replace G:oW a1 a2=some y:=G
   unfold oW at G
   exact hb2 a2 G a4 a5 a6 U w (J.sub _ rfl) X
  replace X:=(SH.nil_own (d:=(kI .i64)) (e:=2) X).pk 2 |>.pk 2
  refine aD f8 (fun s U w=>∃a7 a8 a9,FR 51 [] U [(3,.slice z C H),(4,.slice I S Y),(7,.slice a7 a8 a9),(30,.slice A0 n0 c0),(31,.int .i64 (a0.length:Int)),(32,.int .i64 s.2)]∧SH r (own kS 9 z C H h::own (kI .u8) 5 I S Y a1::own (kI .i64) 2 a7 a8 a9 s.1::L) w) ⟨none,0,0,J.sub _ rfl,X⟩ ?_
  intro l2 g0 g1 G g2 g3 U w hLab
  obtain⟨c9,g4⟩:=g0
  replace G:iJ a0 h c9 g4=some g1:=G
  unfold iJ at G
  try dsimp only at hLab
  obtain⟨a7,a8,a9,J,X⟩:=hLab
  refine nz 1 J rfl fun U J=>wp_seq_k fun l3 g5=>bB J G rfl (fun g6 G=>?_) fun g6 G=>?_
  ·refine wp_skip (g5 _ _ ?_)
   refine wp_seq_k fun l4 g7=>aA fun l5 g8=>ws fun l6 g9=>?_
   obtain⟨l7,d1,G⟩:=bnd G
   refine fO lE sz9 (X.rdl 3 ha0 rfl) d1 J (fun U J=>?_) rfl
   obtain⟨cs,hV,h0⟩:=el (X.rdl 3 ha0 rfl) d1
   obtain rfl:=hV
   refine aI uu9 (h0 0 _ rfl) J (fun U J=>?_) rfl
   refine x_m J rfl fun U J=>wn (g9 _ _ ?_)
   refine ws fun l8 h1=>xk 2 J rfl fun U J=>?_
   obtain⟨b3,h2,G⟩:=bnd G
   refine x_c bCe J rfl (qZ h2 X (RdL.own 0 rfl (X.dropN 0)) :) fun v U w hR J=>?_
   obtain⟨rfl,X⟩:=hR
   refine nk 5 J rfl fun U J=>h1 _ _ (aC ?_)
   refine xk 2 J rfl fun U J=>gV (d:=(kI .i64)) (e:=2) (ps:=#[(0,.int .i64 b3.1)]) (cells:=[.int .i64 b3.1]) (xs:=[b3.1]) (fun w=>by kernel_rfl) rfl ⟨[.int .i64 b3.1],_,rfl,rfl,rfl⟩ J X (fun l9 U w X J=>?_) rfl
   obtain⟨h3,G⟩:=aB G
   have hr:=X.rd 0 rfl
   refine gG 3 kO bM J X hr.1 hr.2.1 h3 rfl (fun h4 h5 h6 U w X J=>?_) rfl
   refine x_m J rfl fun U J=>wpList_nil (g8 _ _ ?_)
   refine g7 _ _ (aC ?_)
   refine x_l G J rfl fun m1 _ U J G=>x_m J rfl fun U J=>wpList_nil ?_
   replace X:=X.drop 1 |>.pk 2 |>.pk 2
   cases G
   exact⟨_,g2 _ rfl,h4,h5,h6,J.sub _ rfl,X⟩
  replace X:=X.drop 0
  cases G
  exact wp_exit (f9 c9 (g3 _ rfl) a7 a8 a9 U w (J.sub _ rfl) X)
 obtain⟨h7,h8,G⟩:=bnd G
 have h9:∀a3,(a3)=h7→∀b4 b5 b6 U w,FR 51 [] U [(0,.slice A0 n0 c0),(3,.slice z C H),(4,.slice b4 b5 b6)]→SH r (own kS 9 z C H h::own (kI .u8) 5 b4 b5 b6 a3::L) w→c7 U w:=by
  intro a3 ht b4 b5 b6 U w J X
  subst ht
  replace G:oS a0 h a3=some y:=G
  unfold oS at G
  exact hb1 a3 G b4 b5 b6 U w (J.sub _ rfl) X
 replace X:=X.pk 1
 refine aD h8 (fun s U w=>∃b7 b8 b9,FR 51 [] U [(0,.slice A0 n0 c0),(3,.slice z C H),(4,.slice b7 b8 b9),(20,.slice z C H),(21,.int .i64 (h.length:Int)),(22,.int .i64 s.2)]∧SH r (own kS 9 z C H h::own (kI .u8) 5 b7 b8 b9 s.1::L) w) ⟨e0,e1,e2,J.sub _ rfl,X⟩ ?_
 intro m2 i0 i1 G i2 i3 U w hLab
 obtain⟨d2,i4⟩:=i0
 replace G:iM h d2 i4=some i1:=G
 unfold iM at G
 try dsimp only at hLab
 obtain⟨b7,b8,b9,J,X⟩:=hLab
 refine nz 1 J rfl fun U J=>wp_seq_k fun m3 i5=>bB J G rfl (fun i6 G=>?_) fun i6 G=>?_
 ·refine wp_skip (i5 _ _ ?_)
  refine wp_seq_k fun m4 i7=>aA fun m5 i8=>ws fun m6 i9=>?_
  obtain⟨m7,d3,G⟩:=bnd G
  refine fO lE sz9 (X.rd 0 rfl) d3 J (fun U J=>?_) rfl
  obtain⟨cs,hV,j0⟩:=el (X.rd 0 rfl) d3
  obtain rfl:=hV
  refine aI uu9 (j0 0 _ rfl) J (fun U J=>?_) rfl
  refine x_m J rfl fun U J=>wn (i9 _ _ ?_)
  refine aC (xk 2 J rfl fun U J=>?_)
  replace X:=X.pk 1
  obtain⟨m8,j1,G⟩:=bnd G
  refine x_c aXy J rfl (aA3 j1 X :) fun v U w hR J=>?_
  obtain⟨j2,j3,j4,rfl,X⟩:=hR
  refine x_m J rfl fun U J=>wpList_nil (i8 _ _ ?_)
  refine i7 _ _ (aC ?_)
  refine x_l G J rfl fun m9 _ U J G=>x_m J rfl fun U J=>wpList_nil ?_
  replace X:=X.pk 1
  cases G
  exact⟨_,i2 _ rfl,j2,j3,j4,J.sub _ rfl,X⟩
 cases G
 exact wp_exit (h9 d2 (i3 _ rfl) b7 b8 b9 U w (J.sub _ rfl) X)
end
noncomputable section
set_option linter.unusedSimpArgs false
def gJ:Option (Int) :=
  some (-1)
def fR:Option (Int) :=
  gJ
def bO (a0:(List Int)) (a1:Int) (h:Int):Option ((Int)⊕((Unit)⊕(Int))) :=
  if (decide (h<(a0.length:Int)))=true then ((at_ a0 h).bind fun z=>(if (a1==z)=true then (some (.inr (.inr h))) else (ltt (IntKind.i64.wrap (h+1)) fun C=>(some (.inl (C)))))) else (some (.inr (.inl ())))
def fE (a0:(List Int)) (a1:Int):Option (Int) :=
  (loop (fun s=>bO a0 a1 s) (0)).bind fun t=>match t with | (.inl t)=>fR | (.inr t)=>some t
def cY (a0:(List Int)) (a1:Int):Option (Bool) :=
  (fE a0 a1).bind fun h=>(some (decide (0≤h)))
def uB (a0:S47) (a1:Int):Option (Bool) :=
  if (decide (0≤a0.f1))=true then (if (decide (a0.f1<a1))=true then (if (decide (-1099511627776≤a0.f2))=true then (if (decide (a0.f2≤1099511627776))=true then (if (decide ((a0.f3.length:Int)≤32))=true then (some (decide (a0.f0<1099511627776))) else (some false)) else (some false)) else (some false)) else (some false)) else (some false)
def wU (a0:S47) (a1:S47):Option (Bool) :=
  if (a0.f0==a1.f0)=true then (if (a0.f1==a1.f1)=true then (if (a0.f2==a1.f2)=true then (if (a0.f3==a1.f3)=true then ((xY a0.f4 a1.f4).bind fun h=>(some h)) else (some false)) else (some false)) else (some false)) else (some false)
def wR:Option (Bool) :=
  some true
def uC:Option (Bool) :=
  wR
def iE (a0:(List S47)) (a1:(List S47)) (h:Int):Option ((Int)⊕((Unit)⊕(Bool))) :=
  if (decide (h<(a0.length:Int)))=true then ((at_ a0 h).bind fun z=>((at_ a1 h).bind fun C=>((wU z C).bind fun G=>(if (!G)=true then (some (.inr (.inr false))) else (some (.inl (IntKind.i64.wrap (h+1)))))))) else (some (.inr (.inl ())))
def lO (a0:(List S47)) (a1:(List S47)):Option (Bool) :=
  if ((a0.length:Int) != (a1.length:Int))=true then (some false) else ((loop (fun s=>iE a0 a1 s) (0)).bind fun t=>match t with | (.inl t)=>uC | (.inr t)=>some t)
def uW (h:(List Int)) (z:(List (List Int))):Option ((S157×(List (List Int)))⊕(S157×(List (List Int)))) :=
  some (.inl ((⟨h⟩:S157),z))
def sM (h:(List Int)) (z:(List (List Int))):Option ((S157×(List (List Int)))⊕(S157×(List (List Int)))) :=
  uW h z
def fM (G:(List Int)) (z:(List (List Int))) (C:Int):Option (((List Int)×(List (List Int))×Int)⊕(((List Int)×(List (List Int)))⊕((S157×(List (List Int)))⊕(S157×(List (List Int)))))) :=
  if (decide (C<5))=true then ((iU (⟨G⟩:S157) 1048576).bind fun h=>(mI h (fun h=>(chk (h.1.length≤maxLen) ((at_ z C).bind fun I=>(ltt (IntKind.i64.wrap (C+1)) fun H=>(some (.inl (h.2.f0,z.set C.toNat (stb h.1),H))))))) (fun h=>(some (.inr (.inr (.inr (h,z)))))))) else (some (.inr (.inl (G,z))))
def vQ (a0:S157) (a1:(List (List Int))):Option ((S157×(List (List Int)))⊕(S157×(List (List Int)))) :=
  (loop (fun s=>fM s.1 s.2.1 s.2.2) (a0.f0,a1,0)).bind fun t=>match t with | (.inl t)=>sM t.1 t.2 | (.inr t)=>some t
def tY (a0:(List Int)) (h:(List (List Int))):Option (Bool×(List (List Int))) :=
  (vQ (⟨a0⟩:S157) h).bind fun y=>(mI y (fun y=>some ((((y.1.f0.length:Int)==0),y.2))) (fun y=>some ((false,y.2))))
def xP (h:(Int×(List Int)×Int×Int)) (z:(List S47)):Option ((List S47)×Int×Int) :=
  some (z,h.2.2.1,0)
def uY (h:(Int×(List Int)×Int×Int)) (z:(List S47)):Option ((List S47)×Int×Int) :=
  xP h z
def kC (a2:Int) (S:((List Int)×Int)) (U:((List Int)×Int)) (X:((List Int)×Int)) (Y:((List (List UInt8))×Int)) (a0:((List Nat)×Int)) (z:(List S47)) (h:Int):Option (((List S47)×Int)⊕(((List S47))⊕((List S47)×Int×Int))) :=
  if (decide (h<(S.1.length:Int)))=true then ((at_ S.1 h).bind fun a1=>(ltt (IntKind.u64.wrap a1) fun C=>((at_ U.1 h).bind fun G=>((at_ X.1 h).bind fun H=>((at_ Y.1 h).bind fun I=>((at_ a0.1 h).bind fun J=>((uB (⟨C,G,H,I,J⟩:S47) a2).bind fun a3=>(if (!a3)=true then (some (.inr (.inr ([],0,3)))) else (chk (z.length+[(⟨C,G,H,I,J⟩:S47)].length≤140737488355328 / 48) (ltt (IntKind.i64.wrap (h+1)) fun a4=>(some (.inl (z++[(⟨C,G,H,I,J⟩:S47)],a4))))))))))))) else (some (.inr (.inl (z))))
def eZ (a2:Int) (h:(Int×(List Int)×Int×Int)) (z:((List Int)×Int)) (C:((List Int)×Int)) (G:((List Int)×Int)) (H:((List (List UInt8))×Int)) (I:((List Nat)×Int)) (J:Bool):Option ((List S47)×Int×Int) :=
  if J=true then (some ([],0,3)) else ((loop (fun s=>kC a2 z C G H I s.1 s.2) ([],0)).bind fun t=>match t with | (.inl t)=>uY h t | (.inr t)=>some t)
def mJ (a2:Int) (I:(Int×(List Int)×Int×Int)) (J:(List (List Int))) (S:Bool):Option ((List S47)×Int×Int) :=
  if (!S)=true then (some ([],0,3)) else ((at_ J 0).bind fun U=>((iK U).bind fun h=>((at_ J 1).bind fun X=>((iK X).bind fun z=>((at_ J 2).bind fun Y=>((iK Y).bind fun C=>((at_ J 3).bind fun a0=>((mT a0).bind fun G=>((at_ J 4).bind fun a1=>((mY a1).bind fun H=>((cY [h.2,z.2,C.2,G.2,H.2] 3).bind fun a3=>(if a3=true then (eZ a2 I h z C G H true) else (if ((z.1.length:Int) != (h.1.length:Int))=true then (eZ a2 I h z C G H true) else (if ((C.1.length:Int) != (h.1.length:Int))=true then (eZ a2 I h z C G H true) else (if ((G.1.length:Int) != (h.1.length:Int))=true then (eZ a2 I h z C G H true) else (eZ a2 I h z C G H ((H.1.length:Int) != (h.1.length:Int))))))))))))))))))
def rI (a0:(List Int)) (a1:Int) (a2:Int):Option ((List S47)×Int×Int) :=
  (yJ a0 a1).bind fun h=>(if (h.2.2.2 != 0)=true then (some ([],0,h.2.2.2)) else (if (h.1==101)=true then ((tY h.2.1 ([[],[],[],[],[]]:List (List Int))).bind fun z=>(mJ a2 h z.2 z.1)) else (mJ a2 h ([[],[],[],[],[]]:List (List Int)) false)))
end
section
variable {r:World} {L:List HP} {w:World} {Z:Nat→Prop} {wz:World}
theorem rM {a0 a1 A0 n0 c0 y} (G:fE a0 a1=some y) (X:SH r (L) w) (ha0:RdL L (kI .i64) A0 n0 c0 a0) :
  Ret Tryz.prog 105 #[.slice A0 n0 c0,.int .i64 a1] w fun v w'=>v=.int .i64 y∧SH r (L) w':=by
 refine enter Tryz.func105 rfl Tryz.ntmps105 [(0,_),(1,_)] rfl (by simp) ?_
 intro U J Qf hQ hQn
 unfold fE at G
 refine nz 1 J rfl fun U J=>wp_seq_k fun b9 I=>ws fun c3 S=>xk 1 J rfl fun U J=>aX aVp (X.rdl 0 ha0 rfl).2.1 J (fun U J=>?_) rfl
 refine x_m J rfl fun U J=>wn (S _ _ ?_)
 refine aA fun h Y=>?_
 have hb1:gJ=some y→∀U w,FR 19 [] U []→SH r (L) w→h U w:=by
  intro G U w J X
  unfold gJ at G
  refine Y _ _ (I _ _ ?_)
  refine nz 1 J rfl fun U J=>?_
  cases G
  refine wp_ret (hQ _ _ ?_)
  exact lv Tryz.results105 J rfl ⟨rfl,X⟩
 obtain⟨a2,a3,G⟩:=bnd G
 have a4:=G
 have a5:(.inl ())=a2→∀U w,FR 19 [] U []→SH r (L) w→h U w:=by
  intro ht U w J X
  subst ht
  replace G:fR=some y:=G
  unfold fR at G
  exact hb1 G U w (J.sub _ rfl) X
 refine aD a3 (fun s U w=>FR 19 [] U [(0,.slice A0 n0 c0),(1,.int .i64 a1),(7,.int .i64 (a0.length:Int)),(8,.int .i64 s)]∧SH r (L) w) ⟨J.sub _ rfl,X⟩ ?_
 intro c4 a6 a7 G a8 z U w hLab
 obtain⟨C,rfl⟩:∃ q,q=a6:=⟨_,rfl⟩
 replace G:bO a0 a1 C=some a7:=G
 unfold bO at G
 try dsimp only at hLab
 obtain⟨J,X⟩:=hLab
 refine nz 1 J rfl fun U J=>wp_seq_k fun c5 a9=>bB J G rfl (fun b3 G=>?_) fun b3 G=>?_
 ·refine wp_skip (a9 _ _ ?_)
  refine wp_seq_k fun c6 b4=>aA fun c7 b5=>nz 2 J rfl fun U J=>ws fun c8 b6=>xk 3 J rfl fun U J=>?_
  obtain⟨c9,H,G⟩:=bnd G
  refine fO aVp aO4 (X.rdl 0 ha0 rfl) H J (fun U J=>?_) rfl
  obtain⟨cs,hV,b7⟩:=el (X.rdl 0 ha0 rfl) H
  obtain rfl:=hV
  refine aI aOx (b7 0 _ rfl) J (fun U J=>?_) rfl
  refine nk 1 J rfl fun U J=>b6 _ _ (bB J G rfl (fun b8 G=>?_) fun b8 G=>?_)
  ·refine nz 2 J rfl fun U J=>?_
   cases G
   refine wp_ret ?_
   have ht:=z _ rfl
   subst ht
   replace G:=a4
   replace G:some C=some y:=G
   cases G
   refine hQ _ _ (lv Tryz.results105 J rfl ?_)
   exact⟨rfl,X⟩
  refine wp_skip (b5 _ _ ?_)
  refine b4 _ _ (aC ?_)
  refine x_l G J rfl fun d0 _ U J G=>x_m J rfl fun U J=>wpList_nil ?_
  cases G
  exact⟨_,a8 _ rfl,J.sub _ rfl,X⟩
 cases G
 exact wp_exit (a5 (z _ rfl) U w (J.sub _ rfl) X)
theorem pX {a0 a1 A0 n0 c0 y} (G:cY a0 a1=some y) (X:SH r (L) w) (ha0:RdL L (kI .i64) A0 n0 c0 a0) :
  Ret Tryz.prog 81 #[.slice A0 n0 c0,.int .i64 a1] w fun v w'=>v=.bool y∧SH r (L) w':=by
 refine enter Tryz.func81 rfl Tryz.ntmps81 [(0,_),(1,_)] rfl (by simp) ?_
 intro U J Qf hQ hQn
 unfold cY at G
 refine nz 1 J rfl fun U J=>ws fun C h=>xk 2 J rfl fun U J=>?_
 obtain⟨H,z,G⟩:=bnd G
 refine x_c aYr J rfl (rM z X (RdL.sfx 0 rfl ha0) :) fun v U w hR J=>?_
 obtain⟨rfl,X⟩:=hR
 refine nk 2 J rfl fun U J=>?_
 cases G
 refine h _ _ (wp_ret ?_)
 refine hQ _ _ (lv Tryz.results81 J rfl ?_)
 exact⟨rfl,X⟩
theorem aCf {a0 a1 y} (G:uB a0 a1=some y) (X:SH r (L) w) :
  Ret Tryz.prog 28 #[.agg #[.int .u64 a0.f0,.int .i64 a0.f1,.int .i64 a0.f2,str a0.f3,.float .f64 a0.f4],.int .i64 a1] w fun v w'=>v=.bool y∧SH r (L) w':=by
 refine enter Tryz.func28 rfl Tryz.ntmps28 [(0,_),(1,_)] rfl (by simp) ?_
 intro U J Qf hQ hQn
 unfold uB at G
 refine ws fun a2 Y=>nY J X (fun a3 U w X J=>?_) rfl
 refine x_m J rfl fun U J=>wn (Y _ _ ?_)
 refine ws fun a4 h=>aL tX J (fun U J=>?_) rfl
 refine aI uu3 (X.cell 0 rfl 1 _ rfl) J (fun U J=>?_) rfl
 refine xk 2 J rfl fun U J=>bcG G (fun C G=>?_) fun C G=>?_
 ·refine aO C J ?_ rfl
  refine aL tX J (fun U J=>?_) rfl
  refine aO C J ?_ rfl
  refine aI uu3 (X.cell 0 rfl 1 _ rfl) J (fun U J=>?_) rfl
  refine xg 4 C J rfl rfl fun U J=>bcG G (fun H G=>?_) fun H G=>?_
  ·refine aO H J ?_ rfl
   refine aL jN J (fun U J=>?_) rfl
   refine aO H J ?_ rfl
   refine aI uu2 (X.cell 0 rfl 2 _ rfl) J (fun U J=>?_) rfl
   refine xg 3 H J rfl rfl fun U J=>bcG G (fun I G=>?_) fun I G=>?_
   ·refine aO I J ?_ rfl
    refine aL jN J (fun U J=>?_) rfl
    refine aO I J ?_ rfl
    refine aI uu2 (X.cell 0 rfl 2 _ rfl) J (fun U J=>?_) rfl
    refine xg 3 I J rfl rfl fun U J=>bcG G (fun z G=>?_) fun z G=>?_
    ·refine aO z J ?_ rfl
     refine aL tU J (fun U J=>?_) rfl
     refine aO z J ?_ rfl
     refine aI uu9 (X.cell 0 rfl 3 _ rfl) J (fun U J=>?_) rfl
     refine aO z J ?_ rfl
     refine x_v J (aBp uu9 rfl (J.ev rfl)) rfl fun U J=>xg 3 z J rfl rfl fun U J=>bcG G (fun S G=>?_) fun S G=>?_
     ·refine aO S J ?_ rfl
      refine aL uX J (fun U J=>?_) rfl
      refine aO S J ?_ rfl
      refine aI mD (X.cell 0 rfl 0 _ rfl) J (fun U J=>?_) rfl
      refine ng 3 S J rfl rfl fun U J=>?_
      replace X:=X.drop 0
      cases G
      refine h _ _ (wp_ret ?_)
      refine hQ _ _ (lv Tryz.results28 J rfl ?_)
      exact⟨rfl,X⟩
     refine ng 5 S J rfl rfl fun U J=>?_
     replace X:=X.drop 0
     cases G
     refine h _ _ (wp_ret ?_)
     refine hQ _ _ (lv Tryz.results28 J rfl ?_)
     exact⟨rfl,X⟩
    refine xg 6 z J rfl rfl fun U J=>xO 3 rfl J rfl fun U J=>cG rfl J (fun U J=>?_) rfl
    refine x_m J rfl fun U J=>wn (h _ _ ?_)
    replace X:=X.drop 0
    cases G
    refine wp_ret (hQ _ _ ?_)
    exact lv Tryz.results28 J rfl ⟨rfl,X⟩
   refine xg 5 I J rfl rfl fun U J=>xO 4 rfl J rfl fun U J=>cG rfl J (fun U J=>?_) rfl
   refine x_m J rfl fun U J=>xO 3 rfl J rfl fun U J=>cG rfl J (fun U J=>?_) rfl
   refine x_m J rfl fun U J=>wn (h _ _ ?_)
   replace X:=X.drop 0
   cases G
   refine wp_ret (hQ _ _ ?_)
   exact lv Tryz.results28 J rfl ⟨rfl,X⟩
  refine xg 5 H J rfl rfl fun U J=>xO 3 rfl J rfl fun U J=>cG rfl J (fun U J=>?_) rfl
  refine x_m J rfl fun U J=>xO 4 rfl J rfl fun U J=>cG rfl J (fun U J=>?_) rfl
  refine x_m J rfl fun U J=>xO 3 rfl J rfl fun U J=>cG rfl J (fun U J=>?_) rfl
  refine x_m J rfl fun U J=>wn (h _ _ ?_)
  replace X:=X.drop 0
  cases G
  refine wp_ret (hQ _ _ ?_)
  exact lv Tryz.results28 J rfl ⟨rfl,X⟩
 refine xg 6 C J rfl rfl fun U J=>xO 3 rfl J rfl fun U J=>cG rfl J (fun U J=>?_) rfl
 refine x_m J rfl fun U J=>xO 3 rfl J rfl fun U J=>cG rfl J (fun U J=>?_) rfl
 refine x_m J rfl fun U J=>xO 4 rfl J rfl fun U J=>cG rfl J (fun U J=>?_) rfl
 refine x_m J rfl fun U J=>xO 3 rfl J rfl fun U J=>cG rfl J (fun U J=>?_) rfl
 refine x_m J rfl fun U J=>wn (h _ _ ?_)
 replace X:=X.drop 0
 cases G
 refine wp_ret (hQ _ _ ?_)
 exact lv Tryz.results28 J rfl ⟨rfl,X⟩
theorem aLz {a0 a1 y} (G:wU a0 a1=some y) (X:SH r (L) w) :
  Ret Tryz.prog 30 #[.agg #[.int .u64 a0.f0,.int .i64 a0.f1,.int .i64 a0.f2,str a0.f3,.float .f64 a0.f4],.agg #[.int .u64 a1.f0,.int .i64 a1.f1,.int .i64 a1.f2,str a1.f3,.float .f64 a1.f4]] w fun v w'=>v=.bool y∧SH r (L) w':=by
 refine enter Tryz.func30 rfl Tryz.ntmps30 [(0,_),(1,_)] rfl (by simp) ?_
 intro U J Qf hQ hQn
 unfold wU at G
 refine ws fun a2 S=>nY J X (fun a3 U w X J=>?_) rfl
 refine nY J X (fun a4 U w X J=>?_) rfl
 refine x_m J rfl fun U J=>wn (S _ _ ?_)
 refine ws fun a5 I=>aL uX J (fun U J=>?_) rfl
 refine aI mD (X.cell 1 rfl 0 _ rfl) J (fun U J=>?_) rfl
 refine aL uX J (fun U J=>?_) rfl
 refine aI mD (X.cell 0 rfl 0 _ rfl) J (fun U J=>?_) rfl
 refine xk 2 J rfl fun U J=>bcG G (fun C G=>?_) fun C G=>?_
 ·refine aO C J ?_ rfl
  refine aL tX J (fun U J=>?_) rfl
  refine aO C J ?_ rfl
  refine aI uu3 (X.cell 1 rfl 1 _ rfl) J (fun U J=>?_) rfl
  refine aO C J ?_ rfl
  refine aL tX J (fun U J=>?_) rfl
  refine aO C J ?_ rfl
  refine aI uu3 (X.cell 0 rfl 1 _ rfl) J (fun U J=>?_) rfl
  refine xg 3 C J rfl rfl fun U J=>bcG G (fun H G=>?_) fun H G=>?_
  ·refine aO H J ?_ rfl
   refine aL jN J (fun U J=>?_) rfl
   refine aO H J ?_ rfl
   refine aI uu2 (X.cell 1 rfl 2 _ rfl) J (fun U J=>?_) rfl
   refine aO H J ?_ rfl
   refine aL jN J (fun U J=>?_) rfl
   refine aO H J ?_ rfl
   refine aI uu2 (X.cell 0 rfl 2 _ rfl) J (fun U J=>?_) rfl
   refine xg 3 H J rfl rfl fun U J=>bcG G (fun h G=>?_) fun h G=>?_
   ·refine aO h J ?_ rfl
    refine aL tU J (fun U J=>?_) rfl
    refine aO h J ?_ rfl
    refine aI uu9 (X.cell 1 rfl 3 _ rfl) J (fun U J=>?_) rfl
    refine aO h J ?_ rfl
    refine aL tU J (fun U J=>?_) rfl
    refine aO h J ?_ rfl
    refine aI uu9 (X.cell 0 rfl 3 _ rfl) J (fun U J=>?_) rfl
    refine aO h J ?_ rfl
    refine x_v J (aRp rfl (J.ev rfl) (J.ev rfl)) rfl fun U J=>xg 2 h J rfl rfl fun U J=>bcG G (fun z G=>?_) fun z G=>?_
    ·refine aO z J ?_ rfl
     refine aL aGl J (fun U J=>?_) rfl
     refine aO z J ?_ rfl
     refine aI aKo (X.cell 1 rfl 4 _ rfl) J (fun U J=>?_) rfl
     refine aO z J ?_ rfl
     refine aL aGl J (fun U J=>?_) rfl
     refine aO z J ?_ rfl
     refine aI aKo (X.cell 0 rfl 4 _ rfl) J (fun U J=>?_) rfl
     refine aO z J ?_ rfl
     obtain⟨a6,Y,G⟩:=bnd G
     refine x_c bBd J rfl (aLl Y X :) fun v U w hR J=>?_
     obtain⟨rfl,X⟩:=hR
     refine ng 2 z J rfl rfl fun U J=>?_
     replace X:=X.drop 0 |>.drop 0
     cases G
     refine I _ _ (wp_ret ?_)
     refine hQ _ _ (lv Tryz.results30 J rfl ?_)
     exact⟨rfl,X⟩
    refine ng 7 z J rfl rfl fun U J=>?_
    replace X:=X.drop 0 |>.drop 0
    cases G
    refine I _ _ (wp_ret ?_)
    refine hQ _ _ (lv Tryz.results30 J rfl ?_)
    exact⟨rfl,X⟩
   refine xg 7 h J rfl rfl fun U J=>xO 5 rfl J rfl fun U J=>cG rfl J (fun U J=>?_) rfl
   refine x_m J rfl fun U J=>wn (I _ _ ?_)
   replace X:=X.drop 0 |>.drop 0
   cases G
   refine wp_ret (hQ _ _ ?_)
   exact lv Tryz.results30 J rfl ⟨rfl,X⟩
  refine xg 7 H J rfl rfl fun U J=>xO 5 rfl J rfl fun U J=>cG rfl J (fun U J=>?_) rfl
  refine x_m J rfl fun U J=>xO 5 rfl J rfl fun U J=>cG rfl J (fun U J=>?_) rfl
  refine x_m J rfl fun U J=>wn (I _ _ ?_)
  replace X:=X.drop 0 |>.drop 0
  cases G
  refine wp_ret (hQ _ _ ?_)
  exact lv Tryz.results30 J rfl ⟨rfl,X⟩
 refine xg 7 C J rfl rfl fun U J=>xO 5 rfl J rfl fun U J=>cG rfl J (fun U J=>?_) rfl
 refine x_m J rfl fun U J=>xO 5 rfl J rfl fun U J=>cG rfl J (fun U J=>?_) rfl
 refine x_m J rfl fun U J=>xO 5 rfl J rfl fun U J=>cG rfl J (fun U J=>?_) rfl
 refine x_m J rfl fun U J=>wn (I _ _ ?_)
 replace X:=X.drop 0 |>.drop 0
 cases G
 refine wp_ret (hQ _ _ ?_)
 exact lv Tryz.results30 J rfl ⟨rfl,X⟩
theorem aBa {a0 a1 A0 n0 c0 A1 n1 c1 y} (G:lO a0 a1=some y) (X:SH r (L) w) (ha0:RdL L k47 A0 n0 c0 a0) (ha1:RdL L k47 A1 n1 c1 a1) :
  Ret Tryz.prog 14 #[.slice A0 n0 c0,.slice A1 n1 c1] w fun v w'=>v=.bool y∧SH r (L) w':=by
 refine enter Tryz.func14 rfl Tryz.ntmps14 [(0,_),(1,_)] rfl (by simp) ?_
 intro U J Qf hQ hQn
 unfold lO at G
 refine nz 1 J rfl fun U J=>wp_seq_k fun d2 a4=>ws fun d3 a5=>xk 1 J rfl fun U J=>aX eT (X.rdl 0 ha0 rfl).2.1 J (fun U J=>?_) rfl
 refine x_m J rfl fun U J=>aX eT (X.rdl 0 ha1 rfl).2.1 J (fun U J=>?_) rfl
 refine nk 1 J rfl fun U J=>a5 _ _ (bB J G rfl (fun a6 G=>?_) fun a6 G=>?_)
 ·refine nz 1 J rfl fun U J=>?_
  cases G
  refine wp_ret (hQ _ _ ?_)
  exact lv Tryz.results14 J rfl ⟨rfl,X⟩
 refine wp_skip (a4 _ _ ?_)
 refine wp_seq_k fun d4 a7=>nz 1 J rfl fun U J=>aA fun I a8=>?_
 have hb1:wR=some y→∀U w,FR 27 [] U []→SH r (L) w→I U w:=by
  intro G U w J X
  unfold wR at G
  refine a8 _ _ (a7 _ _ ?_)
  refine nz 1 J rfl fun U J=>?_
  cases G
  refine wp_ret (hQ _ _ ?_)
  exact lv Tryz.results14 J rfl ⟨rfl,X⟩
 obtain⟨a9,b3,G⟩:=bnd G
 have b4:=G
 have b5:(.inl ())=a9→∀U w,FR 27 [] U []→SH r (L) w→I U w:=by
  intro ht U w J X
  subst ht
  replace G:uC=some y:=G
  unfold uC at G
  exact hb1 G U w (J.sub _ rfl) X
 refine aD b3 (fun s U w=>FR 27 [] U [(0,.slice A0 n0 c0),(1,.slice A1 n1 c1),(5,.int .i64 s)]∧SH r (L) w) ⟨J.sub _ rfl,X⟩ ?_
 intro d5 b6 b7 G b8 S U w hLab
 obtain⟨H,rfl⟩:∃ q,q=b6:=⟨_,rfl⟩
 replace G:iE a0 a1 H=some b7:=G
 unfold iE at G
 try dsimp only at hLab
 obtain⟨J,X⟩:=hLab
 refine wp_seq_k fun d6 b9=>ws fun d7 c3=>xk 2 J rfl fun U J=>aX eT (X.rdl 0 ha0 rfl).2.1 J (fun U J=>?_) rfl
 refine nk 1 J rfl fun U J=>c3 _ _ (bB J G rfl (fun c4 G=>?_) fun c4 G=>?_)
 ·refine wp_skip (b9 _ _ ?_)
  refine wp_seq_k fun d8 c5=>aA fun d9 c6=>wp_seq_k fun e0 c7=>cN [0,0,3,7,0,0,48,112,255,511] [8] rfl J X (by kernel_rfl) (by kernel_rfl) (by kernel_rfl) (by kernel_rfl) fun w X=>?_
  obtain⟨z,Y,G⟩:=bnd G
  obtain⟨cs,hV,c8⟩:=el (X.rdl 0 ha0 rfl) Y
  obtain rfl:=hV
  obtain⟨C,a2,G⟩:=bnd G
  obtain⟨cs,hV,c9⟩:=el (X.rdl 0 ha1 rfl) a2
  obtain rfl:=hV
  refine⟨[(0,.slice A0 n0 c0),(1,.int .i64 H),(2,.pointer (some (ea A0 (H.toNat * 5)))),(3,.agg #[.int .u64 z.f0,.int .i64 z.f1,.int .i64 z.f2,str z.f3,.float .f64 z.f4]),(4,.slice A1 n1 c1),(5,.int .i64 H),(6,.pointer (some (ea A1 (H.toNat * 5)))),(7,.agg #[.int .u64 C.f0,.int .i64 C.f1,.int .i64 C.f2,str C.f3,.float .f64 C.f4])],?_⟩
  refine dF [0,1,2,3,4,5,6,7] [8] (by kernel_rfl) ⟨pm rfl,pm rfl,pt [(17,_),(18,_)] rfl (fun U J=>fH eT cI (X.rdl 0 ha0 rfl) Y J rfl rfl rfl),pt [(19,_)] rfl (fun U J=>nJ (cs:=[.int .u64 z.f0,.int .i64 z.f1,.int .i64 z.f2,str z.f3,.float .f64 z.f4]) mG cI (fun j u h=>by rw [fG]; exact c8 _ _ h) J rfl rfl rfl),pm rfl,pm rfl,pt [(21,_),(22,_)] rfl (fun U J=>fH eT cI (X.rdl 0 ha1 rfl) a2 J rfl rfl rfl),pt [(23,_)] rfl (fun U J=>nJ (cs:=[.int .u64 C.f0,.int .i64 C.f1,.int .i64 C.f2,str C.f3,.float .f64 C.f4]) mG cI (fun j u h=>by rw [fG]; exact c9 _ _ h) J rfl rfl rfl),trivial⟩ ⟨et [(20,_),(24,_)] rfl (fun U J K hK=>?_),trivial⟩
  obtain⟨a3,d0,G⟩:=bnd G
  refine nQ bA0 J (aLz d0 X :) (fun v w hR=>?_) rfl
  obtain⟨rfl,X⟩:=hR
  refine hK _ [(9,.bool (!a3))] _ rfl (gM [9] (by kernel_rfl) ⟨pt [(25,.bool a3)] rfl (fun U J=>aCp rfl (J.ev rfl)),trivial⟩ ⟨by kernel_rfl,by kernel_rfl⟩ [(0,_),(1,_),(5,_),(26,_)] rfl (fun U J=>?_))
  refine c7 _ _ (bB J G rfl (fun d1 G=>?_) fun d1 G=>?_)
  ·refine nz 1 J rfl fun U J=>?_
   cases G
   refine wp_ret ?_
   have ht:=S _ rfl
   subst ht
   replace G:=b4
   replace G:some false=some y:=G
   cases G
   refine hQ _ _ (lv Tryz.results14 J rfl ?_)
   exact⟨rfl,X⟩
  refine wp_skip (c6 _ _ ?_)
  refine c5 _ _ (aC ?_)
  refine nk 3 J rfl fun U J=>?_
  cases G
  exact⟨_,b8 _ rfl,J.sub _ rfl,X⟩
 cases G
 exact wp_exit (b5 (S _ rfl) U w (J.sub _ rfl) X)
theorem zD {a0 a1 g0 g1 y} (G:vQ a0 a1=some y) (X:SH r (obj157 Z wz g0 a0::own (kM Z wz (kI .u8)) 124 (some ⟨g1,0,none⟩) 5 5 a1::zone Z wz::L) w) :
  RetS Tryz.prog 76 #[.pointer (some ⟨g0,0,none⟩),(pP g1)] w aCo y (fun y v w'=>∃ (Z':Nat→Prop) (wz':World),v=.tuple #[]∧Sub Z wz Z' wz'∧SH r (obj157 Z' wz' g0 y.1::own (kM Z' wz' (kI .u8)) 124 (some ⟨g1,0,none⟩) 5 5 y.2::zone Z' wz'::L) w') (fun y w'=>∃ (Z':Nat→Prop) (wz':World),Sub Z wz Z' wz'∧SH r (obj157 Z' wz' g0 y.1::own (kM Z' wz' (kI .u8)) 124 (some ⟨g1,0,none⟩) 5 5 y.2::zone Z' wz'::L) w'):=by
 refine wH Tryz.func76 rfl Tryz.ntmps76 [(0,_),(1,_)] rfl (by simp) ?_
 intro U J Qf hQ hQn hQp
 unfold vQ at G
 obtain⟨d8,d9,e0,X⟩:=aK X
 obtain⟨e1,X⟩:=(X.pk 1).unpure
 refine nz 1 J rfl fun U J=>aA fun c5 e2=>?_
 have hb1:∀a4 b4,uW a4 b4=some y→∀H I b5 b6 b7 (c6:Sub Z wz H I) (c7:Imm H I (kI .u8) b5 b6 b7 a4) U w,FR 13 [] U [(0,(pP g0)),(1,(pP g1))]→SH r (blk g0 157 [.slice b5 b6 b7]::own (kM H I (kI .u8)) 124 (some ⟨g1,0,none⟩) 5 5 b4::zone H I::L) w→c5 U w:=by
  intro a4 b4 G H I b5 b6 b7 c6 c7 U w J X
  unfold uW at G
  replace X:=(SH.pure_ c7 X).pk 1
  replace X:=(bH (x:=(⟨a4⟩:S157)) X).pk 2 |>.pk 2 |>.pk 2
  cases G
  refine e2 _ _ (hQn _ rfl _ _ ?_)
  exact aB1 Tryz.results76 J ⟨H,I,rfl,c6,X⟩
 obtain⟨e3,e4,G⟩:=bnd G
 have e5:=G
 have e6:∀a2 a3,(.inl (a2,a3))=e3→∀S Y a5 a6 a7 (c8:Sub Z wz S Y) (c9:Imm S Y (kI .u8) a5 a6 a7 a2) U w,FR 13 [] U [(0,(pP g0)),(1,(pP g1))]→SH r (blk g0 157 [.slice a5 a6 a7]::own (kM S Y (kI .u8)) 124 (some ⟨g1,0,none⟩) 5 5 a3::zone S Y::L) w→c5 U w:=by
  intro a2 a3 ht S Y a5 a6 a7 c8 c9 U w J X
  subst ht
  replace G:sM a2 a3=some y:=G
  unfold sM at G
  exact hb1 a2 a3 G S Y a5 a6 a7 c8 c9 U w (J.sub _ rfl) X
 refine aD e4 (fun s U w=>∃z C a8 a9 b3,Sub Z wz z C∧Imm z C (kI .u8) a8 a9 b3 s.1∧FR 13 [] U [(0,(pP g0)),(1,(pP g1)),(4,.int .i64 s.2.2)]∧SH r (blk g0 157 [.slice a8 a9 b3]::own (kM z C (kI .u8)) 124 (some ⟨g1,0,none⟩) 5 5 s.2.1::zone z C::L) w) ⟨Z,wz,d8,d9,e0,(Sub.refl _ _),e1,J.sub _ rfl,X⟩ ?_
 intro g6 e7 e8 G e9 d0 U w hLab
 obtain⟨b8,b9,f2⟩:=e7
 replace G:fM b8 b9 f2=some e8:=G
 unfold fM at G
 try dsimp only at hLab
 obtain⟨z,C,a8,a9,b3,c0,d1,J,X⟩:=hLab
 refine nz 1 J rfl fun U J=>wp_seq_k fun g7 f3=>bB J G rfl (fun f4 G=>?_) fun f4 G=>?_
 ·refine wp_skip (f3 _ _ ?_)
  refine wp_seq_k fun g8 f5=>aA fun g9 f6=>nz 2 J rfl fun U J=>aC (xk 2 J rfl fun U J=>?_)
  replace X:=(SH.pure_ d1 X).pk 1
  replace X:=bH (x:=(⟨b8⟩:S157)) X
  refine pM G aYb J rfl (fun _ h=>uR h X 1 rfl) (fun c3 w X G=>?_) fun c3 v U w hR J G=>?_
  ·replace X:=X.pk 2 |>.pk 2 |>.pk 2
   cases G
   have ht:=d0 _ rfl
   subst ht
   replace G:=e5
   replace G:some (.inr (c3,b9))=some y:=G
   cases G
   exact hQp _ rfl _ _ J.defers ⟨z,C,c0,X⟩
  obtain⟨rfl,X⟩:=hR
  obtain⟨f7,f8,f9,X⟩:=aK X
  obtain⟨g2,X⟩:=(X.pk 1).unpure
  obtain⟨g3,G⟩:=aB G
  refine aWi (e:=5) fC uu5 uu9 J X g3 (fun d2 d3 d4 U w X J=>?_) rfl
  obtain⟨h0,d5,G⟩:=bnd G
  refine zY aGz aC0 (X.rd 2 rfl) d5 J (fun U J=>?_) rfl
  replace X:=X.pk 3 |>.pk 1
  obtain⟨d6,d7,X,g4,c4⟩:=SH.freezem (m:=d3) (c:=d4) (A:=d2) X
  have g5:=Imm.sub g2 c4
  replace X:=(X.pk 2).kind (d':=(kM d6 d7 (kI .u8))) rfl (aCz c4)
  refine aF1 (z':=stb c3.1) (off:=0) (vs:=[.slice d2 d3 d4]) 0 aC0 J X rfl (dQ d5).2.2 (fun c h=>by obtain⟨_,_,_,rfl,_⟩:=h; exact⟨_,_,_,rfl,g4⟩) (fun  U w X J=>?_) rfl rfl rfl rfl rfl rfl rfl rfl
  refine wpList_nil (f6 _ _ ?_)
  refine f5 _ _ (aC ?_)
  refine x_l G J rfl fun h1 _ U J G=>x_m J rfl fun U J=>wpList_nil ?_
  replace X:=X.pk 1 |>.pk 1 |>.pk 2
  cases G
  exact⟨_,e9 _ rfl,d6,d7,f7,f8,f9,(Sub.trans c0 c4),g5,J.sub _ rfl,X⟩
 cases G
 exact wp_exit (e6 b8 b9 (d0 _ rfl) z C a8 a9 b3 c0 d1 U w (J.sub _ rfl) X)
theorem aBi {a0 C A0 n0 c0 z y} (G:tY a0 C=some y) (X:SH r (own (kM Z wz (kI .u8)) 124 (some ⟨z,0,none⟩) 5 5 C::zone Z wz::L) w) (ha0:Imm Z wz (kI .u8) A0 n0 c0 a0) :
  Ret Tryz.prog 75 #[.slice A0 n0 c0,.func (.func 76) #[] #[.pointer (some ⟨z,0,none⟩)]] w fun v w'=>∃ (Z':Nat→Prop) (wz':World),v=.bool y.1∧Sub Z wz Z' wz'∧SH r (own (kM Z' wz' (kI .u8)) 124 (some ⟨z,0,none⟩) 5 5 y.2::zone Z' wz'::L) w':=by
 obtain⟨y',hy,G⟩:=bnd G
 refine Ret.mono_ (aFf (R:=fun v w'=>∃ (Z':Nat→Prop) (wz':World),v=.bool y.1∧Sub Z wz Z' wz'∧SH r (own (kM Z' wz' (kI .u8)) 124 (some ⟨z,0,none⟩) 5 5 y.2::zone Z' wz'::L) w') bA7 X (fun g g4 w1 hS1=>?_)) (fun v w' h=>h)
 replace hS1:=bH (x:=⟨a0⟩) (hS1.pk 1 |> fun h=>(SH.pure_ ha0 (h.pk 1)).pk 1)
 replace hS1:=hS1.pk 1
 replace hS1:=hS1.pk 3
 replace hS1:=hS1.pk 3
 replace hS1:=hS1.pk 3
 rcases y' with y' | y'
 ·replace G:=aRi G
  cases G
  left
  refine Ret.mono_ (RetS.lf (zD hy hS1 :)) ?_
  rintro v w2 ⟨Z',wz',rfl,hs,X⟩
  replace X:=X.pk 3 |>.pk 1
  obtain⟨A',n',c',X⟩:=aK X
  have hQ:=SH.unpure (X.pk 1)
  clear X
  obtain⟨hi,X⟩:=hQ
  refine⟨_,A',n',c',X,fun w3 h3=>⟨Z',wz',?_,hs,h3⟩⟩
  rw [← hi.ln]
 ·replace G:=aP2 G
  cases G
  right
  refine Calls.mono (RetS.rf (zD hy hS1 :)) ?_
  rintro e w2 ⟨rfl,Z',wz',hs,X⟩
  replace X:=X.pk 3 |>.drop 1
  exact⟨rfl,_,X,fun w3 h3=>⟨Z',wz',rfl,hs,h3⟩⟩
theorem aJk {a0 a1 a2 A0 n0 c0 y} (G:rI a0 a1 a2=some y) (X:SH r (zone Z wz::L) w) (ha0:Imm Z wz (kI .u8) A0 n0 c0 a0) (hG1:Imm Z wz (kI .u32) (some ⟨1,0,none⟩) 16 16 dA) :
  Ret Tryz.prog 62 #[.slice A0 n0 c0,.int .i64 a1,.int .i64 a2] w fun v w'=>∃ (Z':Nat→Prop) (wz':World) (B0:Option Addr) (m0:Nat) (d0:Nat),v=.tuple #[(.slice B0 m0 d0),(.int .i64 y.2.1),(.int .i64 y.2.2)]∧Sub Z wz Z' wz'∧SH r (own k47 47 B0 m0 d0 y.1::zone Z' wz'::L) w':=by
 refine enter Tryz.func62 rfl Tryz.ntmps62 [(0,_),(1,_),(2,_)] rfl (by simp) ?_
 intro U J Qf hQ hQn
 unfold rI at G
 refine nz 3 J rfl fun U J=>ws fun p6 h5=>xk 2 J rfl fun U J=>?_
 obtain⟨a6,h6,G⟩:=bnd G
 refine x_c bB6 J rfl (aKe h6 X 0 rfl ha0 hG1 :) fun v U w hR J=>?_
 obtain⟨h7,h8,h9,rfl,X⟩:=hR
 refine nk 9 J rfl fun U J=>h5 _ _ (wp_seq_k fun p7 i0=>?_)
 refine nz 2 J rfl fun U J=>bB J G rfl (fun i1 G=>?_) fun i1 G=>?_
 ·refine nz 4 J rfl fun U J=>?_
  replace X:=(SH.nil_own (d:=k47) (e:=47) X).drop 1 |>.pk 1 |>.pk 1
  cases G
  refine wp_ret (hQ _ _ ?_)
  exact lv3 Tryz.results62 J rfl rfl rfl ⟨Z,wz,none,0,0,rfl,(Sub.refl _ _),X⟩
 refine wp_skip (i0 _ _ ?_)
 refine ws fun p8 i2=>iC (cs:=[.slice none 0 0,.slice none 0 0,.slice none 0 0,.slice none 0 0,.slice none 0 0]) aYk J X (fun f6 U w X J=>?_) rfl
 replace X:=aS2 (d:=(kM Z wz (kI .u8))) (xs:=([[],[],[],[],[]]:List (List Int))) ⟨[.slice none 0 0],_,rfl,⟨_,_,_,rfl,Imm.nil⟩,⟨[.slice none 0 0],_,rfl,⟨_,_,_,rfl,Imm.nil⟩,⟨[.slice none 0 0],_,rfl,⟨_,_,_,rfl,Imm.nil⟩,⟨[.slice none 0 0],_,rfl,⟨_,_,_,rfl,Imm.nil⟩,⟨[.slice none 0 0],_,rfl,⟨_,_,_,rfl,Imm.nil⟩,rfl⟩⟩⟩⟩⟩ rfl rfl X
 refine wn (i2 _ _ ?_)
 refine wp_seq_k fun i3 i4=>?_
 have hj1:∀f7 f8,mJ a2 a6 f7 f8=some y→∀z C (c3:Sub Z wz z C) U w,FR 149 [] U [(2,.int .i64 a2),(11,.int .i64 a6.2.2.1),(13,(pP f6)),(14,.bool f8)]→SH r (own (kM z C (kI .u8)) 124 (some ⟨f6,0,none⟩) 5 5 f7::zone z C::L) w→i3 U w:=by
  intro f7 f8 G z C c3 U w J X
  unfold mJ at G
  refine i4 _ _ (wp_seq_k fun p9 i5=>?_)
  refine nz 2 J rfl fun U J=>bB J G rfl (fun i6 G=>?_) fun i6 G=>?_
  ·refine nz 3 J rfl fun U J=>?_
   replace X:=(SH.nil_own (d:=k47) (e:=47) X).drop 1 |>.pk 1 |>.pk 1
   cases G
   refine wp_ret (hQ _ _ ?_)
   exact lv3 Tryz.results62 J rfl rfl rfl ⟨z,C,none,0,0,rfl,c3,X⟩
  refine wp_skip (i5 _ _ ?_)
  refine ws fun q0 i7=>?_
  obtain⟨q1,g3,G⟩:=bnd G
  refine zY aGz aC0 (X.rd 0 rfl) g3 J (fun U J=>?_) rfl
  obtain⟨cs,hV,i8⟩:=el (X.rd 0 rfl) g3
  obtain⟨q2,q3,q4,rfl,i9⟩:=hV
  refine aI fC (i8 0 _ rfl) J (fun U J=>?_) rfl
  obtain⟨H,j0,G⟩:=bnd G
  refine x_c aSu J rfl (oU j0 X 1 rfl i9 :) fun v U w hR J=>?_
  obtain⟨b4,c4,c5,rfl,X⟩:=hR
  refine nk 5 J rfl fun U J=>i7 _ _ (ws fun q5 j1=>?_)
  obtain⟨q6,g4,G⟩:=bnd G
  refine zY aGz aC0 (X.rd 1 rfl) g4 J (fun U J=>?_) rfl
  obtain⟨cs,hV,j2⟩:=el (X.rd 1 rfl) g4
  obtain⟨q7,q8,q9,rfl,j3⟩:=hV
  refine aI fC (j2 0 _ rfl) J (fun U J=>?_) rfl
  obtain⟨a8,j4,G⟩:=bnd G
  refine x_c aSu J rfl (oU j4 X 2 rfl j3 :) fun v U w hR J=>?_
  obtain⟨b5,c6,c7,rfl,X⟩:=hR
  refine nk 5 J rfl fun U J=>j1 _ _ (ws fun r0 j5=>?_)
  obtain⟨r1,g5,G⟩:=bnd G
  refine zY aGz aC0 (X.rd 2 rfl) g5 J (fun U J=>?_) rfl
  obtain⟨cs,hV,j6⟩:=el (X.rd 2 rfl) g5
  obtain⟨r2,r3,r4,rfl,j7⟩:=hV
  refine aI fC (j6 0 _ rfl) J (fun U J=>?_) rfl
  obtain⟨a9,j8,G⟩:=bnd G
  refine x_c aSu J rfl (oU j8 X 3 rfl j7 :) fun v U w hR J=>?_
  obtain⟨b6,c8,c9,rfl,X⟩:=hR
  refine nk 5 J rfl fun U J=>j5 _ _ (ws fun r5 j9=>?_)
  obtain⟨r6,g6,G⟩:=bnd G
  refine zY aGz aC0 (X.rd 3 rfl) g6 J (fun U J=>?_) rfl
  obtain⟨cs,hV,k0⟩:=el (X.rd 3 rfl) g6
  obtain⟨r7,r8,r9,rfl,k1⟩:=hV
  refine aI fC (k0 0 _ rfl) J (fun U J=>?_) rfl
  obtain⟨b3,k2,G⟩:=bnd G
  refine x_c bA1 J rfl (aBe k2 X 4 rfl k1 :) fun v U w hR J=>?_
  obtain⟨b7,d1,d2,rfl,X⟩:=hR
  refine nk 5 J rfl fun U J=>j9 _ _ (ws fun s2 k3=>?_)
  obtain⟨s3,g7,G⟩:=bnd G
  refine zY aGz aC0 (X.rd 4 rfl) g7 J (fun U J=>?_) rfl
  obtain⟨cs,hV,k4⟩:=el (X.rd 4 rfl) g7
  obtain⟨s4,s5,s6,rfl,k5⟩:=hV
  refine aI fC (k4 0 _ rfl) J (fun U J=>?_) rfl
  obtain⟨a7,k6,G⟩:=bnd G
  refine x_c bBx J rfl (aBj k6 X 5 rfl k5 :) fun v U w hR J=>?_
  obtain⟨b8,d3,d4,rfl,X⟩:=hR
  refine nk 5 J rfl fun U J=>k3 _ _ (ws fun s7 k7=>?_)
  refine xk 1 J rfl fun U J=>aX bM (X.rd 4 rfl).2.1 J (fun U J=>?_) rfl
  refine x_m J rfl fun U J=>wn (k7 _ _ ?_)
  refine wp_seq_k fun s8 k8=>wp_seq_k fun k9 l0=>?_
  have hj2:∀f9,eZ a2 a6 H a8 a9 b3 a7 f9=some y→∀U w,FR 149 [] U [(2,.int .i64 a2),(11,.int .i64 a6.2.2.1),(15,.slice b4 c4 c5),(17,.slice b5 c6 c7),(19,.slice b6 c8 c9),(21,.slice b7 d1 d2),(23,.slice b8 d3 d4),(25,.int .i64 (H.1.length:Int)),(111,.bool f9)]→SH r (own (kI .i64) 2 b4 c4 c5 H.1::own (kI .i64) 2 b5 c6 c7 a8.1::own (kI .i64) 2 b6 c8 c9 a9.1::own kS 9 b7 d1 d2 b3.1::own kF 45 b8 d3 d4 a7.1::zone z C::L) w→k9 U w:=by
   intro f9 G U w J X
   unfold eZ at G
   refine l0 _ _ (bB J G rfl (fun l1 G=>?_) fun l1 G=>?_)
   ·refine nz 3 J rfl fun U J=>?_
    replace X:=(SH.nil_own (d:=k47) (e:=47) X).drop 1 |>.drop 1 |>.drop 1 |>.drop 1 |>.drop 1 |>.pk 1 |>.pk 1
    cases G
    refine wp_ret (hQ _ _ ?_)
    exact lv3 Tryz.results62 J rfl rfl rfl ⟨z,C,none,0,0,rfl,c3,X⟩
   refine wp_skip (k8 _ _ ?_)
   refine nz 1 J rfl fun U J=>wp_seq_k fun s9 l2=>nz 2 J rfl fun U J=>aA fun g8 l3=>?_
   have hb1:∀g0,xP a6 g0=some y→∀e0 e1 e2 U w,FR 149 [] U [(11,.int .i64 a6.2.2.1),(26,.slice e0 e1 e2)]→SH r (own k47 47 e0 e1 e2 g0::zone z C::L) w→g8 U w:=by
    intro g0 G e0 e1 e2 U w J X
    unfold xP at G
    refine l3 _ _ (l2 _ _ ?_)
    refine nz 5 J rfl fun U J=>?_
    replace X:=X.pk 1 |>.pk 1
    cases G
    refine wp_ret (hQ _ _ ?_)
    exact lv3 Tryz.results62 J rfl rfl rfl ⟨z,C,e0,e1,e2,rfl,c3,X⟩
   obtain⟨l4,l5,G⟩:=bnd G
   have l6:=G
   have l7:∀d5,(.inl (d5))=l4→∀e3 e4 e5 U w,FR 149 [] U [(11,.int .i64 a6.2.2.1),(26,.slice e3 e4 e5)]→SH r (own k47 47 e3 e4 e5 d5::zone z C::L) w→g8 U w:=by
    intro d5 ht e3 e4 e5 U w J X
    subst ht
    replace G:uY a6 d5=some y:=G
    unfold uY at G
    exact hb1 d5 G e3 e4 e5 U w (J.sub _ rfl) X
   replace X:=(SH.nil_own (d:=k47) (e:=47) X).pk 6 |>.pk 1 |>.pk 6 |>.pk 6 |>.pk 6 |>.pk 6 |>.pk 6
   refine aD l5 (fun s U w=>∃e6 e7 e8,FR 149 [] U [(2,.int .i64 a2),(11,.int .i64 a6.2.2.1),(15,.slice b4 c4 c5),(17,.slice b5 c6 c7),(19,.slice b6 c8 c9),(21,.slice b7 d1 d2),(23,.slice b8 d3 d4),(26,.slice e6 e7 e8),(112,.int .i64 (H.1.length:Int)),(113,.int .i64 s.2)]∧SH r (own (kI .i64) 2 b4 c4 c5 H.1::own (kI .i64) 2 b5 c6 c7 a8.1::own (kI .i64) 2 b6 c8 c9 a9.1::own kS 9 b7 d1 d2 b3.1::own kF 45 b8 d3 d4 a7.1::own k47 47 e6 e7 e8 s.1::zone z C::L) w) ⟨none,0,0,J.sub _ rfl,X⟩ ?_
   intro t0 l8 l9 G m1 g9 U w hLab
   obtain⟨h0,I⟩:=l8
   replace G:kC a2 H a8 a9 b3 a7 h0 I=some l9:=G
   unfold kC at G
   try dsimp only at hLab
   obtain⟨e6,e7,e8,J,X⟩:=hLab
   refine nz 1 J rfl fun U J=>wp_seq_k fun t1 m2=>bB J G rfl (fun m3 G=>?_) fun m3 G=>?_
   ·refine wp_skip (m2 _ _ ?_)
    refine wp_seq_k fun t3 m4=>aA fun t4 m5=>nz 2 J rfl fun U J=>wp_seq_k fun t5 m6=>cN [0,0,3,7,15,0,0,96,224,0,0,1536,3584,0,0,24576,57344,0,0,393216,917504,2097151,0,8388607] [22,23] rfl J X (by kernel_rfl) (by kernel_rfl) (by kernel_rfl) (by kernel_rfl) fun w X=>?_
    obtain⟨m7,e9,G⟩:=bnd G
    obtain⟨cs,hV,m8⟩:=el (X.rd 0 rfl) e9
    obtain rfl:=hV
    obtain⟨S,h1,G⟩:=nZ G
    obtain⟨Y,f2,G⟩:=bnd G
    obtain⟨cs,hV,m9⟩:=el (X.rd 1 rfl) f2
    obtain rfl:=hV
    obtain⟨a3,f3,G⟩:=bnd G
    obtain⟨cs,hV,n3⟩:=el (X.rd 2 rfl) f3
    obtain rfl:=hV
    obtain⟨a4,f4,G⟩:=bnd G
    obtain⟨cs,hV,n4⟩:=el (X.rd 3 rfl) f4
    obtain rfl:=hV
    obtain⟨a5,f5,G⟩:=bnd G
    obtain⟨cs,hV,n5⟩:=el (X.rd 4 rfl) f5
    obtain rfl:=hV
    refine⟨[(0,.slice b4 c4 c5),(1,.int .i64 I),(2,.pointer (some (ea b4 (I.toNat * 1)))),(3,.int .i64 m7),(4,.int .u64 S),(5,.slice b5 c6 c7),(6,.int .i64 I),(7,.pointer (some (ea b5 (I.toNat * 1)))),(8,.int .i64 Y),(9,.slice b6 c8 c9),(10,.int .i64 I),(11,.pointer (some (ea b6 (I.toNat * 1)))),(12,.int .i64 a3),(13,.slice b7 d1 d2),(14,.int .i64 I),(15,.pointer (some (ea b7 (I.toNat * 1)))),(16,str a4),(17,.slice b8 d3 d4),(18,.int .i64 I),(19,.pointer (some (ea b8 (I.toNat * 1)))),(20,.float .f64 a5),(21,.agg #[.int .u64 S,.int .i64 Y,.int .i64 a3,str a4,.float .f64 a5])],?_⟩
    refine dF [0,1,2,3,4,5,6,7,8,9,10,11,12,13,14,15,16,17,18,19,20,21] [22] (by kernel_rfl) ⟨pm rfl,pm rfl,pt [(116,_),(117,_)] rfl (fun U J=>fH bM sz2 (X.rd 0 rfl) e9 J rfl rfl rfl),pt [(118,_)] rfl (fun U J=>cM uu2 (m8 0 _ rfl) J rfl rfl rfl),pt [(119,_)] rfl fun U J=>jY h1 (aS uu2 mD rfl (J.ev rfl)),pm rfl,pm rfl,pt [(121,_),(122,_)] rfl (fun U J=>fH bM sz2 (X.rd 1 rfl) f2 J rfl rfl rfl),pt [(123,_)] rfl (fun U J=>cM uu2 (m9 0 _ rfl) J rfl rfl rfl),pm rfl,pm rfl,pt [(125,_),(126,_)] rfl (fun U J=>fH bM sz2 (X.rd 2 rfl) f3 J rfl rfl rfl),pt [(127,_)] rfl (fun U J=>cM uu2 (n3 0 _ rfl) J rfl rfl rfl),pm rfl,pm rfl,pt [(129,_),(130,_)] rfl (fun U J=>fH lE sz9 (X.rd 3 rfl) f4 J rfl rfl rfl),pt [(131,_)] rfl (fun U J=>cM uu9 (n4 0 _ rfl) J rfl rfl rfl),pm rfl,pm rfl,pt [(133,_),(134,_)] rfl (fun U J=>fH aBy aW6 (X.rd 4 rfl) f5 J rfl rfl rfl),pt [(135,_)] rfl (fun U J=>cM aKo (n5 0 _ rfl) J rfl rfl rfl),pt [(120,_),(124,_),(128,_),(132,_),(136,_)] rfl fun U J=>nU (ps:=#[(0,.int .u64 S),(1,.int .i64 Y),(2,.int .i64 a3),(3,str a4),(4,.float .f64 a5)]) rfl (qP J rfl) (fun w=>by kernel_rfl),trivial⟩ ⟨et [] rfl (fun U J K hK=>?_),trivial⟩
    refine aPb (cs:=[.int .u64 0,.int .i64 0,.int .i64 0,str [],.float .f64 0]) aJ5 J X (fun h2 w X=>?_) rfl
    obtain⟨cs,hV,n6⟩:=el (X.rd 1 rfl) e9
    obtain rfl:=hV
    obtain⟨cs,hV,n7⟩:=el (X.rd 2 rfl) f2
    obtain rfl:=hV
    obtain⟨cs,hV,n8⟩:=el (X.rd 3 rfl) f3
    obtain rfl:=hV
    obtain⟨cs,hV,n9⟩:=el (X.rd 4 rfl) f4
    obtain rfl:=hV
    obtain⟨cs,hV,o0⟩:=el (X.rd 5 rfl) f5
    obtain rfl:=hV
    refine hK _ [] _ rfl (dF [0,1,2,3,4,5,6,7,8,9,10,11,12,13,14,15,16,17,18,19,20,21] [23] (by kernel_rfl) ⟨pm rfl,pm rfl,pt [(116,_),(117,_)] rfl (fun U J=>fH bM sz2 (X.rd 1 rfl) e9 J rfl rfl rfl),pt [(118,_)] rfl (fun U J=>cM uu2 (n6 0 _ rfl) J rfl rfl rfl),pt [(119,_)] rfl fun U J=>jY h1 (aS uu2 mD rfl (J.ev rfl)),pm rfl,pm rfl,pt [(121,_),(122,_)] rfl (fun U J=>fH bM sz2 (X.rd 2 rfl) f2 J rfl rfl rfl),pt [(123,_)] rfl (fun U J=>cM uu2 (n7 0 _ rfl) J rfl rfl rfl),pm rfl,pm rfl,pt [(125,_),(126,_)] rfl (fun U J=>fH bM sz2 (X.rd 3 rfl) f3 J rfl rfl rfl),pt [(127,_)] rfl (fun U J=>cM uu2 (n8 0 _ rfl) J rfl rfl rfl),pm rfl,pm rfl,pt [(129,_),(130,_)] rfl (fun U J=>fH lE sz9 (X.rd 4 rfl) f4 J rfl rfl rfl),pt [(131,_)] rfl (fun U J=>cM uu9 (n9 0 _ rfl) J rfl rfl rfl),pm rfl,pm rfl,pt [(133,_),(134,_)] rfl (fun U J=>fH aBy aW6 (X.rd 5 rfl) f5 J rfl rfl rfl),pt [(135,_)] rfl (fun U J=>cM aKo (o0 0 _ rfl) J rfl rfl rfl),pt [(120,_),(124,_),(128,_),(132,_),(136,_)] rfl fun U J=>nU (ps:=#[(0,.int .u64 S),(1,.int .i64 Y),(2,.int .i64 a3),(3,str a4),(4,.float .f64 a5)]) rfl (qP J rfl) (fun w=>by kernel_rfl),trivial⟩ ⟨et [(28,_),(137,_)] rfl (fun U J K hK=>?_),trivial⟩)
    refine aLg 0 cI J X rfl (fun  w X=>?_) rfl
    refine hK _ [] _ rfl (gM [] (by kernel_rfl) trivial ⟨by kernel_rfl,by kernel_rfl⟩ [(2,_),(11,_),(15,_),(17,_),(19,_),(21,_),(23,_),(26,_),(28,_),(112,_),(113,_)] rfl (fun U J=>?_))
    refine m6 _ _ (wp_seq_k fun t6 o1=>?_)
    refine ws fun t7 o2=>nF (ad:=⟨h2,0,none⟩) (cs:=[.int .u64 S,.int .i64 Y,.int .i64 a3,str a4,.float .f64 a5]) mG cI (fun j u h=>by rw [nC,Nat.zero_add]; exact X.cell 0 rfl j u h) J (fun U J=>?_) rfl
    refine x_m J rfl fun U J=>?_
    obtain⟨t8,o3,G⟩:=bnd G
    refine x_c aYx J rfl (aCf o3 X :) fun v U w hR J=>?_
    obtain⟨rfl,X⟩:=hR
    refine nk 1 J rfl fun U J=>o2 _ _ (bB J G rfl (fun o4 G=>?_) fun o4 G=>?_)
    ·refine nz 3 J rfl fun U J=>?_
     replace X:=(SH.nil_own (d:=k47) (e:=47) X).drop 1 |>.drop 1 |>.drop 1 |>.drop 1 |>.drop 1 |>.drop 1 |>.drop 1 |>.pk 1 |>.pk 1
     cases G
     refine wp_ret ?_
     have ht:=g9 _ rfl
     subst ht
     replace G:=l6
     replace G:some ([],0,3)=some y:=G
     cases G
     refine hQ _ _ (lv3 Tryz.results62 J rfl rfl rfl ?_)
     exact⟨z,C,none,0,0,rfl,c3,X⟩
    refine wp_skip (o1 _ _ ?_)
    refine aC (x_m J rfl fun U J=>?_)
    refine nF (ad:=⟨h2,0,none⟩) (cs:=[.int .u64 S,.int .i64 Y,.int .i64 a3,str a4,.float .f64 a5]) mG cI (fun j u h=>by rw [nC,Nat.zero_add]; exact X.cell 0 rfl j u h) J (fun U J=>?_) rfl
    refine gV (d:=k47) (e:=47) (ps:=#[(0,.agg #[.int .u64 S,.int .i64 Y,.int .i64 a3,str a4,.float .f64 a5])]) (cells:=[.int .u64 S,.int .i64 Y,.int .i64 a3,str a4,.float .f64 a5]) (xs:=[(⟨S,Y,a3,a4,a5⟩:S47)]) (fun w=>by kernel_rfl) rfl ⟨[.int .u64 S,.int .i64 Y,.int .i64 a3,str a4,.float .f64 a5],_,rfl,rfl,rfl⟩ J X (fun t9 U w X J=>?_) rfl
    obtain⟨o5,G⟩:=aB G
    have hr:=X.rd 0 rfl
    refine gG 7 aB8 eT J X hr.1 hr.2.1 o5 rfl (fun o6 o7 o8 U w X J=>?_) rfl
    refine x_m J rfl fun U J=>wpList_nil (m5 _ _ ?_)
    refine m4 _ _ (aC ?_)
    refine x_l G J rfl fun u0 _ U J G=>x_m J rfl fun U J=>wpList_nil ?_
    replace X:=X.drop 1 |>.drop 1 |>.pk 6 |>.pk 1 |>.pk 6 |>.pk 6 |>.pk 6 |>.pk 6 |>.pk 6
    cases G
    exact⟨_,m1 _ rfl,o6,o7,o8,J.sub _ rfl,X⟩
   replace X:=X.drop 0 |>.drop 0 |>.drop 0 |>.drop 0 |>.drop 0
   cases G
   exact wp_exit (l7 h0 (g9 _ rfl) e6 e7 e8 U w (J.sub _ rfl) X)
  refine aC (xk 5 J rfl fun U J=>?_)
  refine gV (d:=(kI .i64)) (e:=28) (ps:=#[(0,.int .i64 H.2),(1,.int .i64 a8.2),(2,.int .i64 a9.2),(3,.int .i64 b3.2),(4,.int .i64 a7.2)]) (cells:=[.int .i64 H.2,.int .i64 a8.2,.int .i64 a9.2,.int .i64 b3.2,.int .i64 a7.2]) (xs:=[H.2,a8.2,a9.2,b3.2,a7.2]) (fun w=>by kernel_rfl) rfl ⟨[.int .i64 H.2],_,rfl,rfl,⟨[.int .i64 a8.2],_,rfl,rfl,⟨[.int .i64 a9.2],_,rfl,rfl,⟨[.int .i64 b3.2],_,rfl,rfl,⟨[.int .i64 a7.2],_,rfl,rfl,rfl⟩⟩⟩⟩⟩ J X (fun u1 U w X J=>?_) rfl
  obtain⟨u2,o9,G⟩:=bnd G
  refine x_c bBa J rfl (pX o9 X (RdL.own 0 rfl (X.dropN 0)) :) fun v U w hR J=>?_
  obtain⟨rfl,X⟩:=hR
  refine x_m J rfl fun U J=>bcG G (fun d6 G=>?_) fun d6 G=>?_
  ·refine xg 6 d6 J rfl rfl fun U J=>xO 4 rfl J rfl fun U J=>oA rfl J (fun U J=>?_) rfl
   refine x_m J rfl fun U J=>xO 4 rfl J rfl fun U J=>oA rfl J (fun U J=>?_) rfl
   refine x_m J rfl fun U J=>xO 4 rfl J rfl fun U J=>oA rfl J (fun U J=>?_) rfl
   refine wpList_nil ?_
   replace X:=X.drop 0 |>.drop 5 |>.pk 5 |>.pk 1 |>.pk 2 |>.pk 3 |>.pk 4 |>.pk 5
   exact hj2 true G U w (J.sub _ rfl) X
  refine xg 1 d6 J rfl rfl fun U J=>aO d6 J ?_ rfl
  refine aX bM (X.rd 4 rfl).2.1 J (fun U J=>?_) rfl
  refine xg 4 d6 J rfl rfl fun U J=>bcG G (fun d7 G=>?_) fun d7 G=>?_
  ·refine xg 6 d7 J rfl rfl fun U J=>xO 4 rfl J rfl fun U J=>oA rfl J (fun U J=>?_) rfl
   refine x_m J rfl fun U J=>xO 4 rfl J rfl fun U J=>oA rfl J (fun U J=>?_) rfl
   refine wpList_nil ?_
   replace X:=X.drop 0 |>.drop 5 |>.pk 5 |>.pk 1 |>.pk 2 |>.pk 3 |>.pk 4 |>.pk 5
   exact hj2 true G U w (J.sub _ rfl) X
  refine xg 1 d7 J rfl rfl fun U J=>aO d7 J ?_ rfl
  refine aX bM (X.rd 3 rfl).2.1 J (fun U J=>?_) rfl
  refine xg 4 d7 J rfl rfl fun U J=>bcG G (fun d8 G=>?_) fun d8 G=>?_
  ·refine xg 6 d8 J rfl rfl fun U J=>xO 4 rfl J rfl fun U J=>oA rfl J (fun U J=>?_) rfl
   refine wpList_nil ?_
   replace X:=X.drop 0 |>.drop 5 |>.pk 5 |>.pk 1 |>.pk 2 |>.pk 3 |>.pk 4 |>.pk 5
   exact hj2 true G U w (J.sub _ rfl) X
  refine xg 1 d8 J rfl rfl fun U J=>aO d8 J ?_ rfl
  refine aX lE (X.rd 2 rfl).2.1 J (fun U J=>?_) rfl
  refine xg 4 d8 J rfl rfl fun U J=>bcG G (fun d9 G=>?_) fun d9 G=>?_
  ·refine ng 5 d9 J rfl rfl fun U J=>?_
   replace X:=X.drop 0 |>.drop 5 |>.pk 5 |>.pk 1 |>.pk 2 |>.pk 3 |>.pk 4 |>.pk 5
   exact hj2 true G U w (J.sub _ rfl) X
  refine xg 1 d9 J rfl rfl fun U J=>aO d9 J ?_ rfl
  refine aX aBy (X.rd 1 rfl).2.1 J (fun U J=>?_) rfl
  refine ng 3 d9 J rfl rfl fun U J=>?_
  replace X:=X.drop 0 |>.drop 5 |>.pk 5 |>.pk 1 |>.pk 2 |>.pk 3 |>.pk 4 |>.pk 5
  exact hj2 ((a7.1.length:Int) != (H.1.length:Int)) G U w (J.sub _ rfl) X
 refine aC (xk 3 J rfl fun U J=>?_)
 refine bcG G (fun b9 G=>?_) fun b9 G=>?_
 ·refine xg 1 b9 J rfl rfl fun U J=>aO b9 J ?_ rfl
  refine x_v J (mF rfl (rU (vals:=#[]) J rfl) (rU (vals:=#[.pointer (some ⟨f6,0,none⟩)]) J rfl)) rfl fun U J=>aO b9 J ?_ rfl
  replace X:=X.pk 2 |>.pk 2
  obtain⟨p0,p1,X,h3,g1⟩:=SH.freeze (n:=h8) (c:=h9) (A:=h7) X
  have p2:=Imm.sub ha0 g1
  replace X:=(X.pk 1).kind (d':=(kM p0 p1 (kI .u8))) rfl (aCz g1)
  replace X:=X.pk 1 |>.pk 1
  obtain⟨h4,p3,G⟩:=bnd G
  refine x_c aW8 J rfl (aBi p3 X h3 :) fun v U w hR J=>?_
  obtain⟨p4,p5,rfl,g2,X⟩:=hR
  have u3:=Imm.sub p2 g2
  have u4:=Imm.sub h3 g2
  exact ng 2 b9 J rfl rfl fun U J=>hj1 h4.2 h4.1 G p4 p5 (Sub.trans g1 g2) U w (J.sub _ rfl) X
 refine ng 5 b9 J rfl rfl fun U J=>?_
 replace X:=X.drop 1
 exact hj1 ([[],[],[],[],[]]:List (List Int)) false G Z wz (Sub.refl _ _) U w (J.sub _ rfl) X
end
noncomputable section
set_option linter.unusedSimpArgs false
def vF (a0:(List Int)) (h:(List Int)):Option ((List Int)) :=
  (zB a0 101 h).bind fun z=>(some z)
def sN (a0:(List Int)) (h:(List Int)):Option ((List Int)) :=
  vF a0 h
def lR (z:((List Int))) (C:((List Int))) (G:((List Int))) (H:((List Int))) (I:((List Int))) (J:(List Int)) (h:Int):Option (((List Int)×Int)⊕(((List Int)))) :=
  if (decide (h<([z,C,G,H,I].length:Int)))=true then ((at_ [z,C,G,H,I] h).bind fun S=>((pA J (bts S)).bind fun U=>(ltt (IntKind.i64.wrap (h+1)) fun X=>(some (.inl (U,X)))))) else (some (.inr (J)))
def vW (a0:(List Int)) (h:(List Int)) (z:(List Int)) (C:(List Int)) (G:(List (List UInt8))) (H:(List Nat)):Option ((List Int)) :=
  (lU h).bind fun I=>((lU z).bind fun J=>((lU C).bind fun S=>((sS G).bind fun U=>((sK H).bind fun X=>((loop (fun s=>lR I J S U X s.1 s.2) ([],0)).bind fun t=>sN a0 t)))))
def sQ (a0:(List Int)) (h:(List Int)) (z:(List Int)) (C:(List Int)) (G:(List (List UInt8))) (H:(List Nat)):Option ((List Int)) :=
  vW a0 h z C G H
def vH (h:Int) (z:(List Int)) (C:(List Int)) (G:(List Int)) (H:(List (List UInt8))) (I:(List Nat)):Option (((List Int)×(List Int)×(List Int)×(List (List UInt8))×(List Nat)×Int)⊕(((List Int)×(List Int)×(List Int)×(List (List UInt8))×(List Nat)))) :=
  ltt (IntKind.i64.wrap (h+1)) fun J=>(some (.inl (z,C,G,H,I,J)))
def vN (G:(List Int)) (H:(List Int)) (z:(List (List UInt8))) (C:(List Nat)) (I:Int) (h:S47) (J:(List Int)):Option (((List Int)×(List Int)×(List Int)×(List (List UInt8))×(List Nat)×Int)⊕(((List Int)×(List Int)×(List Int)×(List (List UInt8))×(List Nat)))) :=
  chk (z.length+[h.f3].length≤140737488355328 / 16) (chk (C.length+[h.f4].length≤140737488355328 / 8) (vH I J (G++[h.f1]) (H++[h.f2]) (z++[h.f3]) (C++[h.f4])))
def lM (a1:(List S47)) (z:(List Int)) (C:(List Int)) (G:(List Int)) (I:(List (List UInt8))) (J:(List Nat)) (H:Int):Option (((List Int)×(List Int)×(List Int)×(List (List UInt8))×(List Nat)×Int)⊕(((List Int)×(List Int)×(List Int)×(List (List UInt8))×(List Nat)))) :=
  if (decide (H<(a1.length:Int)))=true then ((at_ a1 H).bind fun h=>(ltt (IntKind.i64.wrap h.f0) fun S=>(chk (z.length+[S].length≤140737488355328 / 8) (chk (C.length+[h.f1].length≤140737488355328 / 8) (chk (G.length+[h.f2].length≤140737488355328 / 8) (vN C G I J H h (z++[S]))))))) else (some (.inr (z,C,G,I,J)))
def yH (a0:(List Int)) (a1:(List S47)):Option ((List Int)) :=
  (loop (fun s=>lM a1 s.1 s.2.1 s.2.2.1 s.2.2.2.1 s.2.2.2.2.1 s.2.2.2.2.2) ([],[],[],[],[],0)).bind fun t=>sQ a0 t.1 t.2.1 t.2.2.1 t.2.2.2.1 t.2.2.2.2
end
end Go.Proofs.YtnefioccdkmegaaGreatDoor.M
