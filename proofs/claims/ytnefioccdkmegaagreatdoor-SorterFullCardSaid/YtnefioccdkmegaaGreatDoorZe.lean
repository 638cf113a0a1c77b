/- Texts of the claim, joined: what it uses of Dst0, Vb, Dst, Mst, Dev, Mev, Del. -/
import Derived.Test.YtnefioccdkmegaaGreatDoorZd
namespace Go.Proofs.YtnefioccdkmegaaGreatDoor.M
open Go Go.RowKit Go.Proofs.YtnefioccdkmegaaGreatDoor.E
noncomputable def pL (a0:List (List UInt8)):Option (List (List UInt8)):=chk (a0.length * 16≤140737488355328) (some (a0.mergeSort fun x y=>decide (x≤y)))
noncomputable def slices_Compact_string (a0:List (List UInt8)):Option (List (List UInt8)):=some (Lib.compact a0)
set_option linter.unusedVariables false
theorem aEh {r w:World} {L:List HP} {A:Option Addr} {n c:Nat} (hS:SH r L w) :
  Ret Tryz.prog 87 #[.slice A n c] w fun v w'=>∃ g,v=.func (.func 114) #[] #[.pointer (some ⟨g,0,none⟩)]∧SH r (blk g 37 [.slice A n c]::L) w':=by
 refine enter Tryz.func87 rfl Tryz.ntmps87 [(0,_)] rfl (by simp) ?_
 intro ac hA Qf hQ hQn
 refine wp_seq_k fun K1 hK1=>?_
 refine aC ?_
 refine aFc hA hS (fun g ac w hS hA=>?_) rfl rfl rfl rfl rfl rfl
 refine kZ hA (fun ac hA=>?_) rfl rfl rfl rfl rfl
 refine wpList_nil ?_
 refine hK1 _ _ ?_
 refine wp_seq_k fun K2 hK2=>?_
 refine aC ?_
 refine iW hA (mL rfl (rW (vals:=#[]) hA rfl) (rW (vals:=#[.pointer (some ⟨g,0,none⟩)]) hA rfl)) (fun ac hA=>?_) rfl rfl rfl
 refine kZ hA (fun ac hA=>?_) rfl rfl rfl rfl rfl
 refine wpList_nil ?_
 refine hK2 _ _ ?_
 refine wp_ret ?_
 refine hQ _ _ ?_
 refine lv Tryz.results87 hA rfl ?_
 exact⟨g,rfl,hS⟩
theorem aEa {r w:World} {L:List HP} (xs:List (List UInt8)) {g:Nat} {A:Option Addr} {n c:Nat} {y:List (List UInt8)} (hF:pL xs=some y) (ha:RdL L kS A n c xs) (hS:SH r (blk g 37 [.slice A n c]::L) w) :
  Ret Tryz.prog 86 #[.func (.func 114) #[] #[.pointer (some ⟨g,0,none⟩)]] w fun v w'=>∃ (A':Option Addr) (n' c':Nat),v=.slice A' n' c'∧SH r (own kS 9 A' n' c' y::L) w':=by
 obtain⟨hsz,hF⟩:=aB hF
 cases hF
 obtain⟨S1,S2,h1,h2,hd,hA,hL⟩:=hS.head
 have hg:=hA.2
 have hgl:g<w.heap.size:=(Array.getElem?_eq_some_iff.1 hg).1
 have hln:=ha.ln
 subst hln
 refine Calls.mono (aGu g w A c xs hsz hgl (by simp [World.cell?,hg]) fun hpos=>?_) ?_
 ·obtain⟨ad,e,hr⟩:=ha.rd w S2 hL hpos
  have hc:∀ j x,xs[j]?=some x→w.cell? (ad.add j)=some (encStr x):=fun j x hx=>by
   obtain⟨cs,hV,h3⟩:=hr j x hx
   have hV':cs=[str x]:=hV
   subst hV'
   have:=h3 0 (str x) rfl
   rw [show j * kS.sz+0=j from by show j * 1+0=j; omega] at this
   exact this
  obtain⟨x,hx⟩:∃ x,xs[0]?=some x:=⟨_,List.getElem?_eq_getElem hpos⟩
  have h0:=hc 0 x hx
  obtain⟨b,off,sp⟩:=ad
  have hsp:sp=none:=by simpa [Addr.add] using World.cell?_spot h0
  subst hsp
  refine⟨b,off,e,?_,fun j x hx=>?_⟩
  ·have:w.cell? ⟨b,off,none⟩=some (encStr x):=by simpa [Addr.add] using h0
   unfold World.cell? at this
   split at this
   ·rename_i hq; exact (Array.getElem?_eq_some_iff.1 hq).1
   ·cases this
  ·have:=hc j x hx
   unfold Addr.add at this
   split at this
   ·rename_i hj; subst hj; exact this
   ·exact this
 ·rintro ev w' ⟨v,rfl,hr,_,hb⟩
  obtain⟨A',n',c',rfl,hS'⟩:=hS.tail.newrow (d:=kS) (xs:=xs.mergeSort fun x y=>decide (x≤y)) hb (by rw [List.length_mergeSort]; exact hr) (aMn _)
  exact⟨_,rfl,A',n',c',rfl,hS'⟩
theorem aC9 {r w:World} {L:List HP} (xs:List (List UInt8)) {A:Option Addr} {n c:Nat} {y:List (List UInt8)} (hF:slices_Compact_string xs=some y) (hS:SH r (own kS 9 A n c xs::L) w) :
  Ret Tryz.prog 85 #[.slice A n c] w fun v w'=>∃ (A':Option Addr) (n' c':Nat),v=.slice A' n' c'∧SH r (own kS 9 A' n' c' y::L) w':=by
 cases hF
 obtain⟨S1,S2,h1,h2,hd,hA,hL⟩:=hS.head
 obtain⟨hn,⟨inner,hLy,ho⟩,hg⟩:=hA
 subst hn
 have hle:=zX (d:=kS) (e:=9) ⟨rfl,⟨inner,hLy,ho⟩,hg⟩
 obtain rfl:=aHl hLy
 rcases ho.2 with ⟨hv,h0⟩ | ⟨g,cap,cur,hv,hg0,hh,hnc,hcm,hs,ht⟩
 ·injection hv with e1 e2 e3
  subst e1; subst e3
  have hx:xs=[]:=List.eq_nil_of_length_eq_zero h0
  subst hx
  have cC:=Any.slices_Compact_string_empty Tryz.compactL none 0 w
  change Calls Tryz.prog 85 _ _ _ at cC
  refine cC.mono ?_
  rintro ev w' ⟨rfl,rfl⟩
  exact⟨_,rfl,none,0,0,rfl,hS⟩
 ·injection hv with e1 e2 e3
  subst e1; subst e3
  have hH:Go.Sort.Holds encStr w g 0 xs.toArray:=holds_of_block hh (by rw [show xs.length * kS.sz=xs.length from by show _ * 1=_; omega] at ht; exact ht)
  have cC:=Any.slices_Compact_string Tryz.compactL g 0 c xs w hH (by unfold maxLen at hcm; omega) hnc
  change Calls Tryz.prog 85 _ _ _ at cC
  refine cC.mono ?_
  rintro ev w' ⟨rfl,q,rfl⟩
  have hcl:(Lib.compact xs).length≤xs.length:=aDl xs
  refine⟨_,rfl,some ⟨g,0,none⟩,(Lib.compact xs).length,c,rfl,?_⟩
  have hr:=ownsRow_sorted (w:=w) (base:=0) (n:=q) (os:=#[]) (ss:=xs) (ts:=Lib.compact xs++List.replicate (xs.length - (Lib.compact xs).length) []) (by simp; omega) (Nat.zero_le _) hh hnc hcm hs
  rw [Go.Sort.grow_empty] at hr
  have hgb:=grownBy_sorted (w:=w) (g:=g) (n:=q) (os:=#[]) (Lib.compact xs++List.replicate (xs.length - (Lib.compact xs).length) ([]:List UInt8)).toArray
  rw [Go.Sort.grow_empty] at hgb
  obtain⟨q1,q2,q3,q4,q5⟩:=hgb
  refine hS.upd (Ls:=[own kS 9 (some ⟨g,0,none⟩) (Lib.compact xs).length c (Lib.compact xs)]) h1 h2 hd hL q1 q2 q3 q4 (fun k hk hnk=>q5 k hk fun e=>hnk (by cases e; exact hg g rfl)) fun S hSS _ _=>?_
  refine⟨S,fun _=>False,fun k hk=>hk,fun k hk=>hk.elim,fun k _ hk=>hk,⟨rfl,⟨_,aMn _,?_⟩,fun k hk=>by cases hk; exact hSS g (hg g rfl)⟩,trivial⟩
  refine⟨by simp [kS],?_⟩
  rcases hr.2 with ⟨hv2,_⟩ | ⟨g2,cap2,cur2,hv2,_,hh2,hnc2,hcm2,hs2,ht2⟩
  ·cases hv2
  ·injection hv2 with e1 e2 e3
   injection e1 with e1
   injection e1 with e1
   subst e1; subst e3
   refine .inr ⟨g,c,cur2,rfl,Nat.zero_le _,hh2,by omega,hcm2,hs2,?_⟩
   have h5:=congrArg (List.take (Lib.compact xs).length) ht2
   rw [List.take_take,Nat.min_eq_left (by omega),List.map_append,List.take_left' (by simp)] at h5
   rw [show (Lib.compact xs).length * kS.sz=(Lib.compact xs).length from by show _ * 1=_; omega]
   exact h5
noncomputable section
set_option linter.unusedSimpArgs false
def mX (a0:(List UInt8)):Option (Bool) :=
  some (!(a0==a0))
def mP (a0:(List UInt8)):Option (Bool) :=
  some (!(a0==a0))
def oB (a0:(List UInt8)) (a1:(List UInt8)):Option (Bool) :=
  (mX a0).bind fun a=>(if a=true then ((mX a1).bind fun b=>(if (!b)=true then (some true) else (some (Op.bytesLess a0 a1)))) else (some (Op.bytesLess a0 a1)))
def eC (a0:(List (List UInt8))) (a1:(List UInt8)) (a:Int):Option (Int×Bool) :=
  if (decide (a<(a0.length:Int)))=true then ((at_ a0 a).bind fun b=>(if (b==a1)=true then (some (a,true)) else ((mP b).bind fun c=>(if c=true then ((mP a1).bind fun d=>(some (a,d))) else (some (a,false)))))) else (some (a,false))
def dS (a0:(List (List UInt8))) (a1:(List UInt8)) (a:Int):Option (Int×Bool) :=
  eC a0 a1 a
def cK (a:Int) (b:Int):Option ((Int×Int)⊕((Int))) :=
  some (.inl (a,b))
def bL (a0:(List (List UInt8))) (a1:(List UInt8)) (a:Int) (b:Int):Option ((Int×Int)⊕((Int))) :=
  if (decide (a<b))=true then (ltt (IntKind.i64.wrap (a+b)) fun d=>(ltt (IntKind.u64.wrap d) fun e=>(ltt (bS .u64 e 1) fun f=>(ltt (IntKind.i64.wrap f) fun c=>((at_ a0 c).bind fun g=>((oB g a1).bind fun h=>(if h=true then (ltt (IntKind.i64.wrap (c+1)) fun i=>(cK i b)) else (cK a c)))))))) else (some (.inr (a)))
def dM (a0:(List (List UInt8))) (a1:(List UInt8)):Option (Int×Bool) :=
  (loop (fun s=>bL a0 a1 s.1 s.2) (0,(a0.length:Int))).bind fun t=>dS a0 a1 t
def rD (a:(List Int)) (c:(List Int)):Option ((List Int)) :=
  (lX c).bind fun b=>(chk (a.length+b.length≤140737488355328 / 1) (some (a++b)))
def oT (a:(List Int)) (b:(List Int)):Option ((List Int)) :=
  rD a b
def iH (a0:(List (List UInt8))) (d:(List (List UInt8))) (a:(List Int)) (b:Int):Option (((List Int)×Int)⊕(((List Int)))) :=
  if (decide (b<(a0.length:Int)))=true then ((at_ a0 b).bind fun e=>((dM d e).bind fun c=>(chk (a.length+[c.1].length≤140737488355328 / 8) (ltt (IntKind.i64.wrap (b+1)) fun f=>(some (.inl (a++[c.1],f))))))) else (some (.inr (a)))
def oC (a0:(List (List UInt8))) (a:(List (List UInt8))) (b:(List Int)):Option ((List Int)) :=
  (loop (fun s=>iH a0 a s.1 s.2) ([],0)).bind fun t=>oT b t
def oV (a0:(List (List UInt8))) (a:(List (List UInt8))) (b:(List Int)):Option ((List Int)) :=
  oC a0 a b
def iI (b:(List (List UInt8))) (c:(List Int)) (a:Int):Option (((List Int)×Int)⊕(((List Int)))) :=
  if (decide (a<(b.length:Int)))=true then ((at_ b a).bind fun d=>((pM c d).bind fun e=>(ltt (IntKind.i64.wrap (a+1)) fun f=>(some (.inl (e,f)))))) else (some (.inr (c)))
def sR (a0:(List (List UInt8))):Option ((List Int)) :=
  (pL a0).bind fun b=>((slices_Compact_string b).bind fun a=>(ltt (IntKind.u64.wrap (a.length:Int)) fun c=>((kG [] c).bind fun d=>((loop (fun s=>iI a s.1 s.2) (d,0)).bind fun t=>oV a0 a t))))
end
set_option maxRecDepth 100000
set_option maxHeartbeats 4000000
set_option linter.unusedSimpArgs false
section
variable {r:World} {L:List HP} {w:World} {Z:Nat→Prop} {wz:World}
theorem wT {a0 y} (G:mX a0=some y) (X:SH r (L) w) :
  Ret Tryz.prog 134 #[str a0] w fun v w'=>v=.bool y∧SH r (L) w':=by
 refine enter Tryz.func134 rfl Tryz.ntmps134 [(0,_)] rfl (by simp) ?_
 intro U J Qf hQ hQn
 unfold mX at G
 refine nz 1 J rfl fun U J=>ws fun b a=>xk 2 J rfl fun U J=>x_v J (aLe rfl (J.ev rfl) (J.ev rfl)) rfl fun U J=>x_m J rfl fun U J=>wn (a _ _ ?_)
 cases G
 refine wp_ret (hQ _ _ ?_)
 exact lv Tryz.results134 J rfl ⟨rfl,X⟩
theorem tK {a0 y} (G:mP a0=some y) (X:SH r (L) w) :
  Ret Tryz.prog 116 #[str a0] w fun v w'=>v=.bool y∧SH r (L) w':=by
 refine enter Tryz.func116 rfl Tryz.ntmps116 [(0,_)] rfl (by simp) ?_
 intro U J Qf hQ hQn
 unfold mP at G
 refine nz 1 J rfl fun U J=>ws fun b a=>xk 2 J rfl fun U J=>x_v J (aLe rfl (J.ev rfl) (J.ev rfl)) rfl fun U J=>x_m J rfl fun U J=>wn (a _ _ ?_)
 cases G
 refine wp_ret (hQ _ _ ?_)
 exact lv Tryz.results116 J rfl ⟨rfl,X⟩
theorem aCp {a0 a1 y} (G:oB a0 a1=some y) (X:SH r (L) w) :
  Ret Tryz.prog 115 #[str a0,str a1] w fun v w'=>v=.bool y∧SH r (L) w':=by
 refine enter Tryz.func115 rfl Tryz.ntmps115 [(0,_),(1,_)] rfl (by simp) ?_
 intro U J Qf hQ hQn
 unfold oB at G
 refine nz 1 J rfl fun U J=>ws fun f c=>xk 1 J rfl fun U J=>?_
 obtain⟨g,d,G⟩:=bnd G
 refine x_c aUz J rfl (wT d X :) fun v U w hR J=>?_
 obtain⟨rfl,X⟩:=hR
 refine x_m J rfl fun U J=>bcG G (fun a G=>?_) fun a G=>?_
 ·refine xg 1 a J rfl rfl fun U J=>aJ a J ?_ rfl
  obtain⟨h,e,G⟩:=bnd G
  refine x_c aUz J rfl (wT e X :) fun v U w hR J=>?_
  obtain⟨rfl,X⟩:=hR
  refine xg 3 a J rfl rfl fun U J=>bcG G (fun b G=>?_) fun b G=>?_
  ·refine ng 5 b J rfl rfl fun U J=>?_
   cases G
   refine c _ _ (wp_ret ?_)
   refine hQ _ _ (lv Tryz.results115 J rfl ?_)
   exact⟨rfl,X⟩
  refine xg 2 b J rfl rfl fun U J=>aJ b J ?_ rfl
  refine x_v J (aHp rfl (J.ev rfl) (J.ev rfl)) rfl fun U J=>ng 2 b J rfl rfl fun U J=>?_
  cases G
  refine c _ _ (wp_ret ?_)
  refine hQ _ _ (lv Tryz.results115 J rfl ?_)
  exact⟨rfl,X⟩
 refine xg 5 a J rfl rfl fun U J=>aJ rfl J ?_ rfl
 refine x_m J rfl fun U J=>aJ rfl J ?_ rfl
 refine x_m J rfl fun U J=>aJ rfl J ?_ rfl
 refine x_v J (aHp rfl (J.ev rfl) (J.ev rfl)) rfl fun U J=>bT rfl J (fun U J=>?_) rfl
 refine x_m J rfl fun U J=>wn (c _ _ ?_)
 cases G
 refine wp_ret (hQ _ _ ?_)
 exact lv Tryz.results115 J rfl ⟨rfl,X⟩
theorem qT {a0 a1 A0 n0 c0 y} (G:dM a0 a1=some y) (X:SH r (L) w) (ha0:RdL L kS A0 n0 c0 a0) :
  Ret Tryz.prog 89 #[.slice A0 n0 c0,str a1] w fun v w'=>v=.tuple #[(.int .i64 y.1),(.bool y.2)]∧SH r (L) w':=by
 refine enter Tryz.func89 rfl Tryz.ntmps89 [(0,_),(1,_)] rfl (by simp) ?_
 intro U J Qf hQ hQn
 unfold dM at G
 refine nz 2 J rfl fun U J=>ws fun W o=>xk 1 J rfl fun U J=>aU lG (X.rdl 0 ha0 rfl).2.1 J (fun U J=>?_) rfl
 refine x_m J rfl fun U J=>wn (o _ _ ?_)
 refine nz 3 J rfl fun U J=>wp_seq_k fun Y p=>aA fun k q=>?_
 have hb1:∀g,eC a0 a1 g=some y→∀U w,FR 54 [] U [(0,.slice A0 n0 c0),(1,str a1),(6,.int .i64 (a0.length:Int)),(7,.int .i64 g)]→SH r (L) w→k U w:=by
  intro g G U w J X
  unfold eC at G
  refine q _ _ (p _ _ ?_)
  refine ws fun Z e=>xk 5 J rfl fun U J=>bcG G (fun a G=>?_) fun a G=>?_
  ·refine xg 2 a J rfl rfl fun U J=>aJ a J ?_ rfl
   obtain⟨a2,f,G⟩:=bnd G
   refine fG lG sz9 (X.rdl 0 ha0 rfl) f J (fun U J=>?_) rfl
   refine aJ a J ?_ rfl
   obtain⟨cs,hV,t⟩:=el (X.rdl 0 ha0 rfl) f
   obtain rfl:=hV
   refine aH uu9 (t 0 _ rfl) J (fun U J=>?_) rfl
   refine xg 1 a J rfl rfl fun U J=>aJ a J ?_ rfl
   refine x_v J (aRq rfl (J.ev rfl) (J.ev rfl)) rfl fun U J=>xg 1 a J rfl rfl fun U J=>bcG G (fun b G=>?_) fun b G=>?_
   ·refine xg 9 b J rfl rfl fun U J=>aJ a J ?_ rfl
    refine xg 1 b J rfl rfl fun U J=>ng 3 a J rfl rfl fun U J=>?_
    cases G
    refine e _ _ (wp_ret ?_)
    refine hQ _ _ (lv2 Tryz.results89 J rfl rfl ?_)
    exact⟨rfl,X⟩
   refine xg 2 b J rfl rfl fun U J=>aJ b J ?_ rfl
   refine fG lG sz9 (X.rdl 0 ha0 rfl) f J (fun U J=>?_) rfl
   refine aJ b J ?_ rfl
   obtain⟨cs,hV,u⟩:=el (X.rdl 0 ha0 rfl) f
   obtain rfl:=hV
   refine aH uu9 (u 0 _ rfl) J (fun U J=>?_) rfl
   refine aJ b J ?_ rfl
   obtain⟨a3,x,G⟩:=bnd G
   refine x_c aVp J rfl (tK x X :) fun v U w hR J=>?_
   obtain⟨rfl,X⟩:=hR
   refine xg 1 b J rfl rfl fun U J=>bcG G (fun c G=>?_) fun c G=>?_
   ·refine xg 1 c J rfl rfl fun U J=>aJ c J ?_ rfl
    obtain⟨a4,z,G⟩:=bnd G
    refine x_c aVp J rfl (tK z X :) fun v U w hR J=>?_
    obtain⟨rfl,X⟩:=hR
    refine aJ b J ?_ rfl
    refine xg 1 c J rfl rfl fun U J=>aJ a J ?_ rfl
    refine xg 1 b J rfl rfl fun U J=>ng 3 a J rfl rfl fun U J=>?_
    cases G
    refine e _ _ (wp_ret ?_)
    refine hQ _ _ (lv2 Tryz.results89 J rfl rfl ?_)
    exact⟨rfl,X⟩
   refine xg 2 c J rfl rfl fun U J=>aJ b J ?_ rfl
   refine xg 1 c J rfl rfl fun U J=>aJ a J ?_ rfl
   refine xg 1 b J rfl rfl fun U J=>ng 3 a J rfl rfl fun U J=>?_
   cases G
   refine e _ _ (wp_ret ?_)
   refine hQ _ _ (lv2 Tryz.results89 J rfl rfl ?_)
   exact⟨rfl,X⟩
  refine ng 20 a J rfl rfl fun U J=>?_
  cases G
  refine e _ _ (wp_ret ?_)
  refine hQ _ _ (lv2 Tryz.results89 J rfl rfl ?_)
  exact⟨rfl,X⟩
 obtain⟨A,B,G⟩:=bnd G
 have C:∀d,(d)=A→∀U w,FR 54 [] U [(0,.slice A0 n0 c0),(1,str a1),(6,.int .i64 (a0.length:Int)),(7,.int .i64 d)]→SH r (L) w→k U w:=by
  intro d ht U w J X
  subst ht
  replace G:dS a0 a1 d=some y:=G
  unfold dS at G
  exact hb1 d G U w (J.sub _ rfl) X
 refine aD B (fun s U w=>FR 54 [] U [(0,.slice A0 n0 c0),(1,str a1),(6,.int .i64 (a0.length:Int)),(7,.int .i64 s.1),(8,.int .i64 s.2)]∧SH r (L) w) ⟨J.sub _ rfl,X⟩ ?_
 intro a5 D l G E F U w hLab
 obtain⟨h,m⟩:=D
 replace G:bL a0 a1 h m=some l:=G
 unfold bL at G
 try dsimp only at hLab
 obtain⟨J,X⟩:=hLab
 refine wp_seq_k fun a6 H=>nz 3 J rfl fun U J=>bA J G rfl (fun I G=>?_) fun I G=>?_
 ·refine wp_skip (H _ _ ?_)
  refine aA fun K M=>?_
  have hb2:∀i j,cK i j=some l→∀U w,FR 54 [] U [(0,.slice A0 n0 c0),(1,str a1),(6,.int .i64 (a0.length:Int)),(7,.int .i64 i),(8,.int .i64 j)]→SH r (L) w→K U w:=by
   intro i j G U w J X
   unfold cK at G
   cases G
   exact M _ _ ⟨_,E _ rfl,J.sub _ rfl,X⟩
  refine ws fun a7 N=>xk 2 J rfl fun U J=>x_l G J rfl fun a8 _ U J G=>gQ G J (aY uu3 aEf rfl (J.ev rfl)) rfl fun a9 _ U J G=>gQ G J (qV rfl (J.ev rfl) (J.ev rfl) (by decide)) rfl fun b1 _ U J G=>gQ G J (aY aEf uu3 rfl (J.ev rfl)) rfl fun O _ U J G=>x_m J rfl fun U J=>wn (N _ _ ?_)
  refine ws fun b2 P=>xk 2 J rfl fun U J=>?_
  obtain⟨b3,n,G⟩:=bnd G
  refine fG lG sz9 (X.rdl 0 ha0 rfl) n J (fun U J=>?_) rfl
  obtain⟨cs,hV,Q⟩:=el (X.rdl 0 ha0 rfl) n
  obtain rfl:=hV
  refine aH uu9 (Q 0 _ rfl) J (fun U J=>?_) rfl
  refine x_m J rfl fun U J=>?_
  obtain⟨b4,R,G⟩:=bnd G
  refine x_c aZm J rfl (aCp R X :) fun v U w hR J=>?_
  obtain⟨rfl,X⟩:=hR
  refine wn (P _ _ ?_)
  refine bA J G rfl (fun S G=>?_) fun S G=>?_
  ·refine aC (x_m J rfl fun U J=>?_)
   exact x_l G J rfl fun T _ U J G=>x_m J rfl fun U J=>wpList_nil (hb2 T m G U w (J.sub _ rfl) X)
  refine aC (nk 2 J rfl fun U J=>?_)
  exact hb2 h O G U w (J.sub _ rfl) X
 cases G
 exact wp_exit (C h (F _ rfl) U w (J.sub _ rfl) X)
theorem aE2 {a0 A0 n0 c0 y} (G:sR a0=some y) (X:SH r (L) w) (ha0:RdL L kS A0 n0 c0 a0) :
  Ret Tryz.prog 67 #[.slice A0 n0 c0] w fun v w'=>∃ (B0:Option Addr) (m0:Nat) (d0:Nat),v=.slice B0 m0 d0∧SH r (own (kI .u8) 5 B0 m0 d0 y::L) w':=by
 refine enter Tryz.func67 rfl Tryz.ntmps67 [(0,_)] rfl (by simp) ?_
 intro U J Qf hQ hQn
 unfold sR at G
 refine nz 1 J rfl fun U J=>ws fun g0 W=>xk 1 J rfl fun U J=>x_c bCa J rfl (aEh (L:=L) (A:=A0) (n:=n0) (c:=c0) X) fun v U w hR J=>?_
 obtain⟨g1,rfl,X⟩:=hR
 obtain⟨Y,Z,G⟩:=bnd G
 refine x_c bCd J rfl (aEa (L:=L) a0 Z (RdL.sfx 0 rfl ha0) X) fun v U w hR J=>?_
 obtain⟨g2,g3,g4,rfl,X⟩:=hR
 obtain⟨a,a1,G⟩:=bnd G
 refine x_c bBc J rfl (aC9 (L:=L) Y a1 X) fun v U w hR J=>?_
 obtain⟨b,f,g,rfl,X⟩:=hR
 refine x_m J rfl fun U J=>wn (W _ _ ?_)
 refine ws fun g5 a2=>xk 1 J rfl fun U J=>aU lG (X.rd 0 rfl).2.1 J (fun U J=>?_) rfl
 refine gQ G J (aY uu3 mE rfl (J.ev rfl)) rfl fun g6 _ U J G=>?_
 replace X:=SH.nil_own (d:=(kI .u8)) (e:=5) X
 obtain⟨g7,a3,G⟩:=bnd G
 refine x_c aRc J rfl (qZ a3 X :) fun v U w hR J=>?_
 obtain⟨a4,a5,a6,rfl,X⟩:=hR
 refine x_m J rfl fun U J=>wn (a2 _ _ ?_)
 refine wp_seq_k fun g8 a7=>ws fun g9 a8=>xk 1 J rfl fun U J=>aU lG (X.rd 1 rfl).2.1 J (fun U J=>?_) rfl
 refine x_m J rfl fun U J=>wn (a8 _ _ ?_)
 refine aA fun O a9=>?_
 have hb1:∀k,oC a0 a k=some y→∀h i j U w,FR 51 [] U [(0,.slice A0 n0 c0),(3,.slice b f g),(4,.slice h i j)]→SH r (own kS 9 b f g a::own (kI .u8) 5 h i j k::L) w→O U w:=by
  intro k G h i j U w J X
  unfold oC at G
  refine a9 _ _ (a7 _ _ ?_)
  refine nz 1 J rfl fun U J=>wp_seq_k fun h0 b1=>ws fun h1 b2=>xk 1 J rfl fun U J=>aU lG (X.rdl 2 ha0 rfl).2.1 J (fun U J=>?_) rfl
  refine x_m J rfl fun U J=>wn (b2 _ _ ?_)
  refine aA fun P b3=>?_
  have hb2:∀I,rD k I=some y→∀K M N U w,FR 51 [] U [(4,.slice h i j),(7,.slice K M N)]→SH r (own (kI .u8) 5 h i j k::own (kI .i64) 2 K M N I::L) w→P U w:=by
   intro I G K M N U w J X
   unfold rD at G
   refine b3 _ _ (b1 _ _ ?_)
   refine ws fun h2 b4=>xk 2 J rfl fun U J=>?_
   obtain⟨h3,b5,G⟩:=bnd G
   refine x_c aPw J rfl (qS b5 X (RdL.own 1 rfl (X.dropN 0)) :) fun v U w hR J=>?_
   obtain⟨h4,h5,h6,rfl,X⟩:=hR
   obtain⟨b6,G⟩:=aB G
   have hr:=X.rd 0 rfl
   refine gH 1 aC6 fE J X hr.1 hr.2.1 b6 rfl (fun b7 b8 b9 U w X J=>?_) rfl
   refine x_m J rfl fun U J=>wn (b4 _ _ ?_)
   replace X:=X.drop 1 |>.drop 1
   cases G
   refine wp_ret (hQ _ _ ?_)
   exact lv Tryz.results67 J rfl ⟨b7,b8,b9,rfl,X⟩
  obtain⟨c1,c2,G⟩:=bnd G
  have c3:∀l,(l)=c1→∀o p q U w,FR 51 [] U [(4,.slice h i j),(7,.slice o p q)]→SH r (own (kI .u8) 5 h i j k::own (kI .i64) 2 o p q l::L) w→P U w:=by
   intro l ht o p q U w J X
   subst ht
   replace G:oT k l=some y:=G
   unfold oT at G
   exact hb2 l G o p q U w (J.sub _ rfl) X
  replace X:=(SH.nil_own (d:=(kI .i64)) (e:=2) X).pk 2 |>.pk 2
  refine aD c2 (fun s U w=>∃t u x,FR 51 [] U [(3,.slice b f g),(4,.slice h i j),(7,.slice t u x),(30,.slice A0 n0 c0),(31,.int .i64 (a0.length:Int)),(32,.int .i64 s.2)]∧SH r (own kS 9 b f g a::own (kI .u8) 5 h i j k::own (kI .i64) 2 t u x s.1::L) w) ⟨none,0,0,J.sub _ rfl,X⟩ ?_
  intro h7 c4 c5 G c6 c7 U w hLab
  obtain⟨Q,c8⟩:=c4
  replace G:iH a0 a Q c8=some c5:=G
  unfold iH at G
  try dsimp only at hLab
  obtain⟨t,u,x,J,X⟩:=hLab
  refine nz 1 J rfl fun U J=>wp_seq_k fun h8 c9=>bA J G rfl (fun d1 G=>?_) fun d1 G=>?_
  ·refine wp_skip (c9 _ _ ?_)
   refine wp_seq_k fun h9 d2=>aA fun i0 d3=>ws fun i1 d4=>?_
   obtain⟨i2,R,G⟩:=bnd G
   refine fG lG sz9 (X.rdl 3 ha0 rfl) R J (fun U J=>?_) rfl
   obtain⟨cs,hV,d5⟩:=el (X.rdl 3 ha0 rfl) R
   obtain rfl:=hV
   refine aH uu9 (d5 0 _ rfl) J (fun U J=>?_) rfl
   refine x_m J rfl fun U J=>wn (d4 _ _ ?_)
   refine ws fun i3 d6=>xk 2 J rfl fun U J=>?_
   obtain⟨z,d7,G⟩:=bnd G
   refine x_c bBx J rfl (qT d7 X (RdL.own 0 rfl (X.dropN 0)) :) fun v U w hR J=>?_
   obtain⟨rfl,X⟩:=hR
   refine nk 5 J rfl fun U J=>d6 _ _ (aC ?_)
   refine xk 2 J rfl fun U J=>iM (d:=(kI .i64)) (e:=2) (ps:=#[(0,.int .i64 z.1)]) (cells:=[.int .i64 z.1]) (xs:=[z.1]) (fun w=>by kernel_rfl) rfl ⟨[.int .i64 z.1],_,rfl,rfl,rfl⟩ J X (fun i4 U w X J=>?_) rfl
   obtain⟨d8,G⟩:=aB G
   have hr:=X.rd 0 rfl
   refine gH 3 kX bM J X hr.1 hr.2.1 d8 rfl (fun d9 e0 e1 U w X J=>?_) rfl
   refine x_m J rfl fun U J=>wpList_nil (d3 _ _ ?_)
   refine d2 _ _ (aC ?_)
   refine x_l G J rfl fun i5 _ U J G=>x_m J rfl fun U J=>wpList_nil ?_
   replace X:=X.drop 1 |>.pk 2 |>.pk 2
   cases G
   exact⟨_,c6 _ rfl,d9,e0,e1,J.sub _ rfl,X⟩
  replace X:=X.drop 0
  cases G
  exact wp_exit (c3 Q (c7 _ rfl) t u x U w (J.sub _ rfl) X)
 obtain⟨e2,e3,G⟩:=bnd G
 have e4:∀m,(m)=e2→∀B C D U w,FR 51 [] U [(0,.slice A0 n0 c0),(3,.slice b f g),(4,.slice B C D)]→SH r (own kS 9 b f g a::own (kI .u8) 5 B C D m::L) w→O U w:=by
  intro m ht B C D U w J X
  subst ht
  replace G:oV a0 a m=some y:=G
  unfold oV at G
  exact hb1 m G B C D U w (J.sub _ rfl) X
 replace X:=X.pk 1
 refine aD e3 (fun s U w=>∃E F H,FR 51 [] U [(0,.slice A0 n0 c0),(3,.slice b f g),(4,.slice E F H),(20,.slice b f g),(21,.int .i64 (a.length:Int)),(22,.int .i64 s.2)]∧SH r (own kS 9 b f g a::own (kI .u8) 5 E F H s.1::L) w) ⟨a4,a5,a6,J.sub _ rfl,X⟩ ?_
 intro i6 e5 e6 G e7 e8 U w hLab
 obtain⟨S,e9⟩:=e5
 replace G:iI a S e9=some e6:=G
 unfold iI at G
 try dsimp only at hLab
 obtain⟨E,F,H,J,X⟩:=hLab
 refine nz 1 J rfl fun U J=>wp_seq_k fun i7 f0=>bA J G rfl (fun f1 G=>?_) fun f1 G=>?_
 ·refine wp_skip (f0 _ _ ?_)
  refine wp_seq_k fun i8 f2=>aA fun i9 f3=>ws fun j0 f4=>?_
  obtain⟨j1,T,G⟩:=bnd G
  refine fG lG sz9 (X.rd 0 rfl) T J (fun U J=>?_) rfl
  obtain⟨cs,hV,f5⟩:=el (X.rd 0 rfl) T
  obtain rfl:=hV
  refine aH uu9 (f5 0 _ rfl) J (fun U J=>?_) rfl
  refine x_m J rfl fun U J=>wn (f4 _ _ ?_)
  refine aC (xk 2 J rfl fun U J=>?_)
  replace X:=X.pk 1
  obtain⟨j2,f6,G⟩:=bnd G
  refine x_c aYg J rfl (aBf f6 X :) fun v U w hR J=>?_
  obtain⟨f7,f8,f9,rfl,X⟩:=hR
  refine x_m J rfl fun U J=>wpList_nil (f3 _ _ ?_)
  refine f2 _ _ (aC ?_)
  refine x_l G J rfl fun j3 _ U J G=>x_m J rfl fun U J=>wpList_nil ?_
  replace X:=X.pk 1
  cases G
  exact⟨_,e7 _ rfl,f7,f8,f9,J.sub _ rfl,X⟩
 cases G
 exact wp_exit (e4 S (e8 _ rfl) E F H U w (J.sub _ rfl) X)
end
noncomputable section
set_option linter.unusedSimpArgs false
def fZ:Option (Int) :=
  some (-1)
def fO:Option (Int) :=
  fZ
def bO (a0:(List Int)) (a1:Int) (a:Int):Option ((Int)⊕((Unit)⊕(Int))) :=
  if (decide (a<(a0.length:Int)))=true then ((at_ a0 a).bind fun b=>(if (a1==b)=true then (some (.inr (.inr a))) else (ltt (IntKind.i64.wrap (a+1)) fun c=>(some (.inl (c)))))) else (some (.inr (.inl ())))
def fD (a0:(List Int)) (a1:Int):Option (Int) :=
  (loop (fun s=>bO a0 a1 s) (0)).bind fun t=>match t with | (.inl t)=>fO | (.inr t)=>some t
def cR (a0:(List Int)) (a1:Int):Option (Bool) :=
  (fD a0 a1).bind fun a=>(some (decide (0≤a)))
def uA (a0:S47) (a1:Int):Option (Bool) :=
  if (decide (0≤a0.f1))=true then (if (decide (a0.f1<a1))=true then (if (decide (-1099511627776≤a0.f2))=true then (if (decide (a0.f2≤1099511627776))=true then (if (decide ((a0.f3.length:Int)≤32))=true then (some (decide (a0.f0<1099511627776))) else (some false)) else (some false)) else (some false)) else (some false)) else (some false)
def aCk (a0:S47) (a1:Int):Option (Bool) :=
  if (decide (0≤a0.f1))=true then (if (decide (a0.f1<a1))=true then (if (decide (-1099511627776≤a0.f2))=true then (if (decide (a0.f2≤1099511627776))=true then (if (decide ((a0.f3.length:Int)≤32))=true then (some (decide (a0.f0<1099511627776))) else (some false)) else (some false)) else (some false)) else (some false)) else (some false)
def zJ (a0:S47) (a1:S47):Option (Bool) :=
  if (a0.f0==a1.f0)=true then (if (a0.f1==a1.f1)=true then (if (a0.f2==a1.f2)=true then (if (a0.f3==a1.f3)=true then ((zG a0.f4 a1.f4).bind fun a=>(some a)) else (some false)) else (some false)) else (some false)) else (some false)
def wK:Option (Bool) :=
  some true
def uB:Option (Bool) :=
  wK
def nB (a0:(List S47)) (a1:(List S47)) (a:Int):Option ((Int)⊕((Unit)⊕(Bool))) :=
  if (decide (a<(a0.length:Int)))=true then ((at_ a0 a).bind fun b=>((at_ a1 a).bind fun c=>((zJ b c).bind fun d=>(if (!d)=true then (some (.inr (.inr false))) else (some (.inl (IntKind.i64.wrap (a+1)))))))) else (some (.inr (.inl ())))
def rU (a0:(List S47)) (a1:(List S47)):Option (Bool) :=
  if ((a0.length:Int) != (a1.length:Int))=true then (some false) else ((loop (fun s=>nB a0 a1 s) (0)).bind fun t=>match t with | (.inl t)=>uB | (.inr t)=>some t)
def uX (a:(List Int)) (b:(List (List Int))):Option ((S157×(List (List Int)))⊕(S157×(List (List Int)))) :=
  some (.inl ((⟨a⟩:S157),b))
def sE (a:(List Int)) (b:(List (List Int))):Option ((S157×(List (List Int)))⊕(S157×(List (List Int)))) :=
  uX a b
def fN (d:(List Int)) (b:(List (List Int))) (c:Int):Option (((List Int)×(List (List Int))×Int)⊕(((List Int)×(List (List Int)))⊕((S157×(List (List Int)))⊕(S157×(List (List Int)))))) :=
  if (decide (c<5))=true then ((iT (⟨d⟩:S157) 1048576).bind fun a=>(mI a (fun a=>(chk (a.1.length≤maxLen) ((at_ b c).bind fun f=>(ltt (IntKind.i64.wrap (c+1)) fun e=>(some (.inl (a.2.f0,b.set c.toNat (stb a.1),e))))))) (fun a=>(some (.inr (.inr (.inr (a,b)))))))) else (some (.inr (.inl (d,b))))
def vP (a0:S157) (a1:(List (List Int))):Option ((S157×(List (List Int)))⊕(S157×(List (List Int)))) :=
  (loop (fun s=>fN s.1 s.2.1 s.2.2) (a0.f0,a1,0)).bind fun t=>match t with | (.inl t)=>sE t.1 t.2 | (.inr t)=>some t
def tQ (a0:(List Int)) (a:(List (List Int))):Option (Bool×(List (List Int))) :=
  (vP (⟨a0⟩:S157) a).bind fun y=>(mI y (fun y=>some ((((y.1.f0.length:Int)==0),y.2))) (fun y=>some ((false,y.2))))
def xT (a:(Int×(List Int)×Int×Int)) (b:(List S47)):Option ((List S47)×Int×Int) :=
  some (b,a.2.2.1,0)
def uU (a:(Int×(List Int)×Int×Int)) (b:(List S47)):Option ((List S47)×Int×Int) :=
  xT a b
def kA (a2:Int) (h:((List Int)×Int)) (i:((List Int)×Int)) (j:((List Int)×Int)) (k:((List (List UInt8))×Int)) (l:((List Nat)×Int)) (b:(List S47)) (a:Int):Option (((List S47)×Int)⊕(((List S47))⊕((List S47)×Int×Int))) :=
  if (decide (a<(h.1.length:Int)))=true then ((at_ h.1 a).bind fun m=>(ltt (IntKind.u64.wrap m) fun c=>((at_ i.1 a).bind fun d=>((at_ j.1 a).bind fun e=>((at_ k.1 a).bind fun f=>((at_ l.1 a).bind fun g=>((uA (⟨c,d,e,f,g⟩:S47) a2).bind fun n=>(if (!n)=true then (some (.inr (.inr ([],0,3)))) else (chk (b.length+[(⟨c,d,e,f,g⟩:S47)].length≤140737488355328 / 48) (ltt (IntKind.i64.wrap (a+1)) fun o=>(some (.inl (b++[(⟨c,d,e,f,g⟩:S47)],o))))))))))))) else (some (.inr (.inl (b))))
def eY (a2:Int) (a:(Int×(List Int)×Int×Int)) (b:((List Int)×Int)) (c:((List Int)×Int)) (d:((List Int)×Int)) (e:((List (List UInt8))×Int)) (f:((List Nat)×Int)) (g:Bool):Option ((List S47)×Int×Int) :=
  if g=true then (some ([],0,3)) else ((loop (fun s=>kA a2 b c d e f s.1 s.2) ([],0)).bind fun t=>match t with | (.inl t)=>uU a t | (.inr t)=>some t)
def mH (a2:Int) (f:(Int×(List Int)×Int×Int)) (g:(List (List Int))) (h:Bool):Option ((List S47)×Int×Int) :=
  if (!h)=true then (some ([],0,3)) else ((at_ g 0).bind fun i=>((iL i).bind fun a=>((at_ g 1).bind fun j=>((iL j).bind fun b=>((at_ g 2).bind fun k=>((iL k).bind fun c=>((at_ g 3).bind fun l=>((nG l).bind fun d=>((at_ g 4).bind fun m=>((mS m).bind fun e=>((cR [a.2,b.2,c.2,d.2,e.2] 3).bind fun n=>(if n=true then (eY a2 f a b c d e true) else (if ((b.1.length:Int) != (a.1.length:Int))=true then (eY a2 f a b c d e true) else (if ((c.1.length:Int) != (a.1.length:Int))=true then (eY a2 f a b c d e true) else (if ((d.1.length:Int) != (a.1.length:Int))=true then (eY a2 f a b c d e true) else (eY a2 f a b c d e ((e.1.length:Int) != (a.1.length:Int))))))))))))))))))
def rN (a0:(List Int)) (a1:Int) (a2:Int):Option ((List S47)×Int×Int) :=
  (yM a0 a1).bind fun a=>(if (a.2.2.2 != 0)=true then (some ([],0,a.2.2.2)) else (if (a.1==101)=true then ((tQ a.2.1 ([[],[],[],[],[]]:List (List Int))).bind fun b=>(mH a2 a b.2 b.1)) else (mH a2 a ([[],[],[],[],[]]:List (List Int)) false)))
end
section
variable {r:World} {L:List HP} {w:World} {Z:Nat→Prop} {wz:World}
theorem rM {a0 a1 A0 n0 c0 y} (G:fD a0 a1=some y) (X:SH r (L) w) (ha0:RdL L (kI .i64) A0 n0 c0 a0) :
  Ret Tryz.prog 105 #[.slice A0 n0 c0,.int .i64 a1] w fun v w'=>v=.int .i64 y∧SH r (L) w':=by
 refine enter Tryz.func105 rfl Tryz.ntmps105 [(0,_),(1,_)] rfl (by simp) ?_
 intro U J Qf hQ hQn
 unfold fD at G
 refine nz 1 J rfl fun U J=>wp_seq_k fun B e=>ws fun C f=>xk 1 J rfl fun U J=>aU aVv (X.rdl 0 ha0 rfl).2.1 J (fun U J=>?_) rfl
 refine x_m J rfl fun U J=>wn (f _ _ ?_)
 refine aA fun a g=>?_
 have hb1:fZ=some y→∀U w,FR 19 [] U []→SH r (L) w→a U w:=by
  intro G U w J X
  unfold fZ at G
  refine g _ _ (e _ _ ?_)
  refine nz 1 J rfl fun U J=>?_
  cases G
  refine wp_ret (hQ _ _ ?_)
  exact lv Tryz.results105 J rfl ⟨rfl,X⟩
 obtain⟨h,i,G⟩:=bnd G
 have j:=G
 have k:(.inl ())=h→∀U w,FR 19 [] U []→SH r (L) w→a U w:=by
  intro ht U w J X
  subst ht
  replace G:fO=some y:=G
  unfold fO at G
  exact hb1 G U w (J.sub _ rfl) X
 refine aD i (fun s U w=>FR 19 [] U [(0,.slice A0 n0 c0),(1,.int .i64 a1),(7,.int .i64 (a0.length:Int)),(8,.int .i64 s)]∧SH r (L) w) ⟨J.sub _ rfl,X⟩ ?_
 intro D l m G n b U w hLab
 obtain⟨c,rfl⟩:∃ q,q=l:=⟨_,rfl⟩
 replace G:bO a0 a1 c=some m:=G
 unfold bO at G
 try dsimp only at hLab
 obtain⟨J,X⟩:=hLab
 refine nz 1 J rfl fun U J=>wp_seq_k fun E o=>bA J G rfl (fun p G=>?_) fun p G=>?_
 ·refine wp_skip (o _ _ ?_)
  refine wp_seq_k fun F t=>aA fun H u=>nz 2 J rfl fun U J=>ws fun I x=>xk 3 J rfl fun U J=>?_
  obtain⟨K,d,G⟩:=bnd G
  refine fG aVv aOs (X.rdl 0 ha0 rfl) d J (fun U J=>?_) rfl
  obtain⟨cs,hV,z⟩:=el (X.rdl 0 ha0 rfl) d
  obtain rfl:=hV
  refine aH aOq (z 0 _ rfl) J (fun U J=>?_) rfl
  refine nk 1 J rfl fun U J=>x _ _ (bA J G rfl (fun A G=>?_) fun A G=>?_)
  ·refine nz 2 J rfl fun U J=>?_
   cases G
   refine wp_ret ?_
   have ht:=b _ rfl
   subst ht
   replace G:=j
   replace G:some c=some y:=G
   cases G
   refine hQ _ _ (lv Tryz.results105 J rfl ?_)
   exact⟨rfl,X⟩
  refine wp_skip (u _ _ ?_)
  refine t _ _ (aC ?_)
  refine x_l G J rfl fun M _ U J G=>x_m J rfl fun U J=>wpList_nil ?_
  cases G
  exact⟨_,n _ rfl,J.sub _ rfl,X⟩
 cases G
 exact wp_exit (k (b _ rfl) U w (J.sub _ rfl) X)
theorem qH {a0 a1 A0 n0 c0 y} (G:cR a0 a1=some y) (X:SH r (L) w) (ha0:RdL L (kI .i64) A0 n0 c0 a0) :
  Ret Tryz.prog 81 #[.slice A0 n0 c0,.int .i64 a1] w fun v w'=>v=.bool y∧SH r (L) w':=by
 refine enter Tryz.func81 rfl Tryz.ntmps81 [(0,_),(1,_)] rfl (by simp) ?_
 intro U J Qf hQ hQn
 unfold cR at G
 refine nz 1 J rfl fun U J=>ws fun c a=>xk 2 J rfl fun U J=>?_
 obtain⟨d,b,G⟩:=bnd G
 refine x_c aYu J rfl (rM b X (RdL.sfx 0 rfl ha0) :) fun v U w hR J=>?_
 obtain⟨rfl,X⟩:=hR
 refine nk 2 J rfl fun U J=>?_
 cases G
 refine a _ _ (wp_ret ?_)
 refine hQ _ _ (lv Tryz.results81 J rfl ?_)
 exact⟨rfl,X⟩
theorem aCt {a0 a1 y} (G:uA a0 a1=some y) (X:SH r (L) w) :
  Ret Tryz.prog 28 #[.agg #[.int .u64 a0.f0,.int .i64 a0.f1,.int .i64 a0.f2,str a0.f3,.float .f64 a0.f4],.int .i64 a1] w fun v w'=>v=.bool y∧SH r (L) w':=by
 refine enter Tryz.func28 rfl Tryz.ntmps28 [(0,_),(1,_)] rfl (by simp) ?_
 intro U J Qf hQ hQn
 unfold uA at G
 refine ws fun h g=>mY J X (fun i U w X J=>?_) rfl
 refine x_m J rfl fun U J=>wn (g _ _ ?_)
 refine ws fun j a=>aL rL J (fun U J=>?_) rfl
 refine aH uu3 (X.cell 0 rfl 1 _ rfl) J (fun U J=>?_) rfl
 refine xk 2 J rfl fun U J=>bcG G (fun c G=>?_) fun c G=>?_
 ·refine aJ c J ?_ rfl
  refine aL rL J (fun U J=>?_) rfl
  refine aJ c J ?_ rfl
  refine aH uu3 (X.cell 0 rfl 1 _ rfl) J (fun U J=>?_) rfl
  refine xg 4 c J rfl rfl fun U J=>bcG G (fun d G=>?_) fun d G=>?_
  ·refine aJ d J ?_ rfl
   refine aL iR J (fun U J=>?_) rfl
   refine aJ d J ?_ rfl
   refine aH uu2 (X.cell 0 rfl 2 _ rfl) J (fun U J=>?_) rfl
   refine xg 3 d J rfl rfl fun U J=>bcG G (fun e G=>?_) fun e G=>?_
   ·refine aJ e J ?_ rfl
    refine aL iR J (fun U J=>?_) rfl
    refine aJ e J ?_ rfl
    refine aH uu2 (X.cell 0 rfl 2 _ rfl) J (fun U J=>?_) rfl
    refine xg 3 e J rfl rfl fun U J=>bcG G (fun b G=>?_) fun b G=>?_
    ·refine aJ b J ?_ rfl
     refine aL sL J (fun U J=>?_) rfl
     refine aJ b J ?_ rfl
     refine aH uu9 (X.cell 0 rfl 3 _ rfl) J (fun U J=>?_) rfl
     refine aJ b J ?_ rfl
     refine x_v J (aAb uu9 rfl (J.ev rfl)) rfl fun U J=>xg 3 b J rfl rfl fun U J=>bcG G (fun f G=>?_) fun f G=>?_
     ·refine aJ f J ?_ rfl
      refine aL uD J (fun U J=>?_) rfl
      refine aJ f J ?_ rfl
      refine aH mE (X.cell 0 rfl 0 _ rfl) J (fun U J=>?_) rfl
      refine ng 3 f J rfl rfl fun U J=>?_
      replace X:=X.drop 0
      cases G
      refine a _ _ (wp_ret ?_)
      refine hQ _ _ (lv Tryz.results28 J rfl ?_)
      exact⟨rfl,X⟩
     refine ng 5 f J rfl rfl fun U J=>?_
     replace X:=X.drop 0
     cases G
     refine a _ _ (wp_ret ?_)
     refine hQ _ _ (lv Tryz.results28 J rfl ?_)
     exact⟨rfl,X⟩
    refine xg 6 b J rfl rfl fun U J=>xO 3 rfl J rfl fun U J=>bT rfl J (fun U J=>?_) rfl
    refine x_m J rfl fun U J=>wn (a _ _ ?_)
    replace X:=X.drop 0
    cases G
    refine wp_ret (hQ _ _ ?_)
    exact lv Tryz.results28 J rfl ⟨rfl,X⟩
   refine xg 5 e J rfl rfl fun U J=>xO 4 rfl J rfl fun U J=>bT rfl J (fun U J=>?_) rfl
   refine x_m J rfl fun U J=>xO 3 rfl J rfl fun U J=>bT rfl J (fun U J=>?_) rfl
   refine x_m J rfl fun U J=>wn (a _ _ ?_)
   replace X:=X.drop 0
   cases G
   refine wp_ret (hQ _ _ ?_)
   exact lv Tryz.results28 J rfl ⟨rfl,X⟩
  refine xg 5 d J rfl rfl fun U J=>xO 3 rfl J rfl fun U J=>bT rfl J (fun U J=>?_) rfl
  refine x_m J rfl fun U J=>xO 4 rfl J rfl fun U J=>bT rfl J (fun U J=>?_) rfl
  refine x_m J rfl fun U J=>xO 3 rfl J rfl fun U J=>bT rfl J (fun U J=>?_) rfl
  refine x_m J rfl fun U J=>wn (a _ _ ?_)
  replace X:=X.drop 0
  cases G
  refine wp_ret (hQ _ _ ?_)
  exact lv Tryz.results28 J rfl ⟨rfl,X⟩
 refine xg 6 c J rfl rfl fun U J=>xO 3 rfl J rfl fun U J=>bT rfl J (fun U J=>?_) rfl
 refine x_m J rfl fun U J=>xO 3 rfl J rfl fun U J=>bT rfl J (fun U J=>?_) rfl
 refine x_m J rfl fun U J=>xO 4 rfl J rfl fun U J=>bT rfl J (fun U J=>?_) rfl
 refine x_m J rfl fun U J=>xO 3 rfl J rfl fun U J=>bT rfl J (fun U J=>?_) rfl
 refine x_m J rfl fun U J=>wn (a _ _ ?_)
 replace X:=X.drop 0
 cases G
 refine wp_ret (hQ _ _ ?_)
 exact lv Tryz.results28 J rfl ⟨rfl,X⟩
theorem aLk {a0 a1 y} (G:aCk a0 a1=some y) (X:SH r (L) w) :
  Ret Tryz.prog 20 #[.agg #[.int .u64 a0.f0,.int .i64 a0.f1,.int .i64 a0.f2,str a0.f3,.float .f64 a0.f4],.int .i64 a1] w fun v w'=>v=.bool y∧SH r (L) w':=by
 refine enter Tryz.func20 rfl Tryz.ntmps20 [(0,_),(1,_)] rfl (by simp) ?_
 intro U J Qf hQ hQn
 unfold aCk at G
 refine ws fun h g=>mY J X (fun i U w X J=>?_) rfl
 refine x_m J rfl fun U J=>wn (g _ _ ?_)
 refine ws fun j a=>aL rL J (fun U J=>?_) rfl
 refine aH uu3 (X.cell 0 rfl 1 _ rfl) J (fun U J=>?_) rfl
 refine xk 2 J rfl fun U J=>bcG G (fun c G=>?_) fun c G=>?_
 ·refine aJ c J ?_ rfl
  refine aL rL J (fun U J=>?_) rfl
  refine aJ c J ?_ rfl
  refine aH uu3 (X.cell 0 rfl 1 _ rfl) J (fun U J=>?_) rfl
  refine xg 4 c J rfl rfl fun U J=>bcG G (fun d G=>?_) fun d G=>?_
  ·refine aJ d J ?_ rfl
   refine aL iR J (fun U J=>?_) rfl
   refine aJ d J ?_ rfl
   refine aH uu2 (X.cell 0 rfl 2 _ rfl) J (fun U J=>?_) rfl
   refine xg 3 d J rfl rfl fun U J=>bcG G (fun e G=>?_) fun e G=>?_
   ·refine aJ e J ?_ rfl
    refine aL iR J (fun U J=>?_) rfl
    refine aJ e J ?_ rfl
    refine aH uu2 (X.cell 0 rfl 2 _ rfl) J (fun U J=>?_) rfl
    refine xg 3 e J rfl rfl fun U J=>bcG G (fun b G=>?_) fun b G=>?_
    ·refine aJ b J ?_ rfl
     refine aL sL J (fun U J=>?_) rfl
     refine aJ b J ?_ rfl
     refine aH uu9 (X.cell 0 rfl 3 _ rfl) J (fun U J=>?_) rfl
     refine aJ b J ?_ rfl
     refine x_v J (aAb uu9 rfl (J.ev rfl)) rfl fun U J=>xg 3 b J rfl rfl fun U J=>bcG G (fun f G=>?_) fun f G=>?_
     ·refine aJ f J ?_ rfl
      refine aL uD J (fun U J=>?_) rfl
      refine aJ f J ?_ rfl
      refine aH mE (X.cell 0 rfl 0 _ rfl) J (fun U J=>?_) rfl
      refine ng 3 f J rfl rfl fun U J=>?_
      replace X:=X.drop 0
      cases G
      refine a _ _ (wp_ret ?_)
      refine hQ _ _ (lv Tryz.results20 J rfl ?_)
      exact⟨rfl,X⟩
     refine ng 5 f J rfl rfl fun U J=>?_
     replace X:=X.drop 0
     cases G
     refine a _ _ (wp_ret ?_)
     refine hQ _ _ (lv Tryz.results20 J rfl ?_)
     exact⟨rfl,X⟩
    refine xg 6 b J rfl rfl fun U J=>xO 3 rfl J rfl fun U J=>bT rfl J (fun U J=>?_) rfl
    refine x_m J rfl fun U J=>wn (a _ _ ?_)
    replace X:=X.drop 0
    cases G
    refine wp_ret (hQ _ _ ?_)
    exact lv Tryz.results20 J rfl ⟨rfl,X⟩
   refine xg 5 e J rfl rfl fun U J=>xO 4 rfl J rfl fun U J=>bT rfl J (fun U J=>?_) rfl
   refine x_m J rfl fun U J=>xO 3 rfl J rfl fun U J=>bT rfl J (fun U J=>?_) rfl
   refine x_m J rfl fun U J=>wn (a _ _ ?_)
   replace X:=X.drop 0
   cases G
   refine wp_ret (hQ _ _ ?_)
   exact lv Tryz.results20 J rfl ⟨rfl,X⟩
  refine xg 5 d J rfl rfl fun U J=>xO 3 rfl J rfl fun U J=>bT rfl J (fun U J=>?_) rfl
  refine x_m J rfl fun U J=>xO 4 rfl J rfl fun U J=>bT rfl J (fun U J=>?_) rfl
  refine x_m J rfl fun U J=>xO 3 rfl J rfl fun U J=>bT rfl J (fun U J=>?_) rfl
  refine x_m J rfl fun U J=>wn (a _ _ ?_)
  replace X:=X.drop 0
  cases G
  refine wp_ret (hQ _ _ ?_)
  exact lv Tryz.results20 J rfl ⟨rfl,X⟩
 refine xg 6 c J rfl rfl fun U J=>xO 3 rfl J rfl fun U J=>bT rfl J (fun U J=>?_) rfl
 refine x_m J rfl fun U J=>xO 3 rfl J rfl fun U J=>bT rfl J (fun U J=>?_) rfl
 refine x_m J rfl fun U J=>xO 4 rfl J rfl fun U J=>bT rfl J (fun U J=>?_) rfl
 refine x_m J rfl fun U J=>xO 3 rfl J rfl fun U J=>bT rfl J (fun U J=>?_) rfl
 refine x_m J rfl fun U J=>wn (a _ _ ?_)
 replace X:=X.drop 0
 cases G
 refine wp_ret (hQ _ _ ?_)
 exact lv Tryz.results20 J rfl ⟨rfl,X⟩
theorem aMf {a0 a1 y} (G:zJ a0 a1=some y) (X:SH r (L) w) :
  Ret Tryz.prog 30 #[.agg #[.int .u64 a0.f0,.int .i64 a0.f1,.int .i64 a0.f2,str a0.f3,.float .f64 a0.f4],.agg #[.int .u64 a1.f0,.int .i64 a1.f1,.int .i64 a1.f2,str a1.f3,.float .f64 a1.f4]] w fun v w'=>v=.bool y∧SH r (L) w':=by
 refine enter Tryz.func30 rfl Tryz.ntmps30 [(0,_),(1,_)] rfl (by simp) ?_
 intro U J Qf hQ hQn
 unfold zJ at G
 refine ws fun h f=>mY J X (fun i U w X J=>?_) rfl
 refine mY J X (fun j U w X J=>?_) rfl
 refine x_m J rfl fun U J=>wn (f _ _ ?_)
 refine ws fun k e=>aL uD J (fun U J=>?_) rfl
 refine aH mE (X.cell 1 rfl 0 _ rfl) J (fun U J=>?_) rfl
 refine aL uD J (fun U J=>?_) rfl
 refine aH mE (X.cell 0 rfl 0 _ rfl) J (fun U J=>?_) rfl
 refine xk 2 J rfl fun U J=>bcG G (fun c G=>?_) fun c G=>?_
 ·refine aJ c J ?_ rfl
  refine aL rL J (fun U J=>?_) rfl
  refine aJ c J ?_ rfl
  refine aH uu3 (X.cell 1 rfl 1 _ rfl) J (fun U J=>?_) rfl
  refine aJ c J ?_ rfl
  refine aL rL J (fun U J=>?_) rfl
  refine aJ c J ?_ rfl
  refine aH uu3 (X.cell 0 rfl 1 _ rfl) J (fun U J=>?_) rfl
  refine xg 3 c J rfl rfl fun U J=>bcG G (fun d G=>?_) fun d G=>?_
  ·refine aJ d J ?_ rfl
   refine aL iR J (fun U J=>?_) rfl
   refine aJ d J ?_ rfl
   refine aH uu2 (X.cell 1 rfl 2 _ rfl) J (fun U J=>?_) rfl
   refine aJ d J ?_ rfl
   refine aL iR J (fun U J=>?_) rfl
   refine aJ d J ?_ rfl
   refine aH uu2 (X.cell 0 rfl 2 _ rfl) J (fun U J=>?_) rfl
   refine xg 3 d J rfl rfl fun U J=>bcG G (fun a G=>?_) fun a G=>?_
   ·refine aJ a J ?_ rfl
    refine aL sL J (fun U J=>?_) rfl
    refine aJ a J ?_ rfl
    refine aH uu9 (X.cell 1 rfl 3 _ rfl) J (fun U J=>?_) rfl
    refine aJ a J ?_ rfl
    refine aL sL J (fun U J=>?_) rfl
    refine aJ a J ?_ rfl
    refine aH uu9 (X.cell 0 rfl 3 _ rfl) J (fun U J=>?_) rfl
    refine aJ a J ?_ rfl
    refine x_v J (aRq rfl (J.ev rfl) (J.ev rfl)) rfl fun U J=>xg 2 a J rfl rfl fun U J=>bcG G (fun b G=>?_) fun b G=>?_
    ·refine aJ b J ?_ rfl
     refine aL aFr J (fun U J=>?_) rfl
     refine aJ b J ?_ rfl
     refine aH aKm (X.cell 1 rfl 4 _ rfl) J (fun U J=>?_) rfl
     refine aJ b J ?_ rfl
     refine aL aFr J (fun U J=>?_) rfl
     refine aJ b J ?_ rfl
     refine aH aKm (X.cell 0 rfl 4 _ rfl) J (fun U J=>?_) rfl
     refine aJ b J ?_ rfl
     obtain⟨l,g,G⟩:=bnd G
     refine x_c bB0 J rfl (aLj g X :) fun v U w hR J=>?_
     obtain⟨rfl,X⟩:=hR
     refine ng 2 b J rfl rfl fun U J=>?_
     replace X:=X.drop 0 |>.drop 0
     cases G
     refine e _ _ (wp_ret ?_)
     refine hQ _ _ (lv Tryz.results30 J rfl ?_)
     exact⟨rfl,X⟩
    refine ng 7 b J rfl rfl fun U J=>?_
    replace X:=X.drop 0 |>.drop 0
    cases G
    refine e _ _ (wp_ret ?_)
    refine hQ _ _ (lv Tryz.results30 J rfl ?_)
    exact⟨rfl,X⟩
   refine xg 7 a J rfl rfl fun U J=>xO 5 rfl J rfl fun U J=>bT rfl J (fun U J=>?_) rfl
   refine x_m J rfl fun U J=>wn (e _ _ ?_)
   replace X:=X.drop 0 |>.drop 0
   cases G
   refine wp_ret (hQ _ _ ?_)
   exact lv Tryz.results30 J rfl ⟨rfl,X⟩
  refine xg 7 d J rfl rfl fun U J=>xO 5 rfl J rfl fun U J=>bT rfl J (fun U J=>?_) rfl
  refine x_m J rfl fun U J=>xO 5 rfl J rfl fun U J=>bT rfl J (fun U J=>?_) rfl
  refine x_m J rfl fun U J=>wn (e _ _ ?_)
  replace X:=X.drop 0 |>.drop 0
  cases G
  refine wp_ret (hQ _ _ ?_)
  exact lv Tryz.results30 J rfl ⟨rfl,X⟩
 refine xg 7 c J rfl rfl fun U J=>xO 5 rfl J rfl fun U J=>bT rfl J (fun U J=>?_) rfl
 refine x_m J rfl fun U J=>xO 5 rfl J rfl fun U J=>bT rfl J (fun U J=>?_) rfl
 refine x_m J rfl fun U J=>xO 5 rfl J rfl fun U J=>bT rfl J (fun U J=>?_) rfl
 refine x_m J rfl fun U J=>wn (e _ _ ?_)
 replace X:=X.drop 0 |>.drop 0
 cases G
 refine wp_ret (hQ _ _ ?_)
 exact lv Tryz.results30 J rfl ⟨rfl,X⟩
theorem aGx {a0 a1 A0 n0 c0 A1 n1 c1 y} (G:rU a0 a1=some y) (X:SH r (L) w) (ha0:RdL L k47 A0 n0 c0 a0) (ha1:RdL L k47 A1 n1 c1 a1) :
  Ret Tryz.prog 14 #[.slice A0 n0 c0,.slice A1 n1 c1] w fun v w'=>v=.bool y∧SH r (L) w':=by
 refine enter Tryz.func14 rfl Tryz.ntmps14 [(0,_),(1,_)] rfl (by simp) ?_
 intro U J Qf hQ hQn
 unfold rU at G
 refine nz 1 J rfl fun U J=>wp_seq_k fun R k=>ws fun S l=>xk 1 J rfl fun U J=>aU eG (X.rdl 0 ha0 rfl).2.1 J (fun U J=>?_) rfl
 refine x_m J rfl fun U J=>aU eG (X.rdl 0 ha1 rfl).2.1 J (fun U J=>?_) rfl
 refine nk 1 J rfl fun U J=>l _ _ (bA J G rfl (fun m G=>?_) fun m G=>?_)
 ·refine nz 1 J rfl fun U J=>?_
  cases G
  refine wp_ret (hQ _ _ ?_)
  exact lv Tryz.results14 J rfl ⟨rfl,X⟩
 refine wp_skip (k _ _ ?_)
 refine wp_seq_k fun T n=>nz 1 J rfl fun U J=>aA fun d o=>?_
 have hb1:wK=some y→∀U w,FR 27 [] U []→SH r (L) w→d U w:=by
  intro G U w J X
  unfold wK at G
  refine o _ _ (n _ _ ?_)
  refine nz 1 J rfl fun U J=>?_
  cases G
  refine wp_ret (hQ _ _ ?_)
  exact lv Tryz.results14 J rfl ⟨rfl,X⟩
 obtain⟨p,t,G⟩:=bnd G
 have x:=G
 have z:(.inl ())=p→∀U w,FR 27 [] U []→SH r (L) w→d U w:=by
  intro ht U w J X
  subst ht
  replace G:uB=some y:=G
  unfold uB at G
  exact hb1 G U w (J.sub _ rfl) X
 refine aD t (fun s U w=>FR 27 [] U [(0,.slice A0 n0 c0),(1,.slice A1 n1 c1),(5,.int .i64 s)]∧SH r (L) w) ⟨J.sub _ rfl,X⟩ ?_
 intro W A B G C e U w hLab
 obtain⟨c,rfl⟩:∃ q,q=A:=⟨_,rfl⟩
 replace G:nB a0 a1 c=some B:=G
 unfold nB at G
 try dsimp only at hLab
 obtain⟨J,X⟩:=hLab
 refine wp_seq_k fun Y D=>ws fun Z E=>xk 2 J rfl fun U J=>aU eG (X.rdl 0 ha0 rfl).2.1 J (fun U J=>?_) rfl
 refine nk 1 J rfl fun U J=>E _ _ (bA J G rfl (fun F G=>?_) fun F G=>?_)
 ·refine wp_skip (D _ _ ?_)
  refine wp_seq_k fun a2 H=>aA fun a3 I=>wp_seq_k fun a4 M=>cP [0,0,3,7,0,0,48,112,255,511] [8] rfl J X (by kernel_rfl) (by kernel_rfl) (by kernel_rfl) (by kernel_rfl) fun w X=>?_
  obtain⟨a,f,G⟩:=bnd G
  obtain⟨cs,hV,N⟩:=el (X.rdl 0 ha0 rfl) f
  obtain rfl:=hV
  obtain⟨b,g,G⟩:=bnd G
  obtain⟨cs,hV,O⟩:=el (X.rdl 0 ha1 rfl) g
  obtain rfl:=hV
  refine⟨[(0,.slice A0 n0 c0),(1,.int .i64 c),(2,.pointer (some (ea A0 (c.toNat * 5)))),(3,.agg #[.int .u64 a.f0,.int .i64 a.f1,.int .i64 a.f2,str a.f3,.float .f64 a.f4]),(4,.slice A1 n1 c1),(5,.int .i64 c),(6,.pointer (some (ea A1 (c.toNat * 5)))),(7,.agg #[.int .u64 b.f0,.int .i64 b.f1,.int .i64 b.f2,str b.f3,.float .f64 b.f4])],?_⟩
  refine dF [0,1,2,3,4,5,6,7] [8] (by kernel_rfl) ⟨pm rfl,pm rfl,pt [(17,_),(18,_)] rfl (fun U J=>fH eG cH (X.rdl 0 ha0 rfl) f J rfl rfl rfl),pt [(19,_)] rfl (fun U J=>nL (cs:=[.int .u64 a.f0,.int .i64 a.f1,.int .i64 a.f2,str a.f3,.float .f64 a.f4]) lL cH (fun j u h=>by rw [eU]; exact N _ _ h) J rfl rfl rfl),pm rfl,pm rfl,pt [(21,_),(22,_)] rfl (fun U J=>fH eG cH (X.rdl 0 ha1 rfl) g J rfl rfl rfl),pt [(23,_)] rfl (fun U J=>nL (cs:=[.int .u64 b.f0,.int .i64 b.f1,.int .i64 b.f2,str b.f3,.float .f64 b.f4]) lL cH (fun j u h=>by rw [eU]; exact O _ _ h) J rfl rfl rfl),trivial⟩ ⟨et [(20,_),(24,_)] rfl (fun U J K hK=>?_),trivial⟩
  obtain⟨i,P,G⟩:=bnd G
  refine nQ bCn J (aMf P X :) (fun v w hR=>?_) rfl
  obtain⟨rfl,X⟩:=hR
  refine hK _ [(9,.bool (!i))] _ rfl (gK [9] (by kernel_rfl) ⟨pt [(25,.bool i)] rfl (fun U J=>aCc rfl (J.ev rfl)),trivial⟩ ⟨by kernel_rfl,by kernel_rfl⟩ [(0,_),(1,_),(5,_),(26,_)] rfl (fun U J=>?_))
  refine M _ _ (bA J G rfl (fun Q G=>?_) fun Q G=>?_)
  ·refine nz 1 J rfl fun U J=>?_
   cases G
   refine wp_ret ?_
   have ht:=e _ rfl
   subst ht
   replace G:=x
   replace G:some false=some y:=G
   cases G
   refine hQ _ _ (lv Tryz.results14 J rfl ?_)
   exact⟨rfl,X⟩
  refine wp_skip (I _ _ ?_)
  refine H _ _ (aC ?_)
  refine nk 3 J rfl fun U J=>?_
  cases G
  exact⟨_,C _ rfl,J.sub _ rfl,X⟩
 cases G
 exact wp_exit (z (e _ rfl) U w (J.sub _ rfl) X)
theorem zS {a0 a1 g0 g1 y} (G:vP a0 a1=some y) (X:SH r (obj157 Z wz g0 a0::own (kM Z wz (kI .u8)) 124 (some ⟨g1,0,none⟩) 5 5 a1::zone Z wz::L) w) :
  RetS Tryz.prog 76 #[.pointer (some ⟨g0,0,none⟩),(pP g1)] w aCh y (fun y v w'=>∃ (Z':Nat→Prop) (wz':World),v=.tuple #[]∧Sub Z wz Z' wz'∧SH r (obj157 Z' wz' g0 y.1::own (kM Z' wz' (kI .u8)) 124 (some ⟨g1,0,none⟩) 5 5 y.2::zone Z' wz'::L) w') (fun y w'=>∃ (Z':Nat→Prop) (wz':World),Sub Z wz Z' wz'∧SH r (obj157 Z' wz' g0 y.1::own (kM Z' wz' (kI .u8)) 124 (some ⟨g1,0,none⟩) 5 5 y.2::zone Z' wz'::L) w'):=by
 refine wZ Tryz.func76 rfl Tryz.ntmps76 [(0,_),(1,_)] rfl (by simp) ?_
 intro U J Qf hQ hQn hQp
 unfold vP at G
 obtain⟨a5,a6,a7,X⟩:=aM X
 obtain⟨a8,X⟩:=(X.pk 1).unpure
 refine nz 1 J rfl fun U J=>aA fun M a9=>?_
 have hb1:∀l z,uX l z=some y→∀d f B C D (N:Sub Z wz d f) (O:Imm d f (kI .u8) B C D l) U w,FR 13 [] U [(0,(pP g0)),(1,(pP g1))]→SH r (blk g0 157 [.slice B C D]::own (kM d f (kI .u8)) 124 (some ⟨g1,0,none⟩) 5 5 z::zone d f::L) w→M U w:=by
  intro l z G d f B C D N O U w J X
  unfold uX at G
  replace X:=(SH.pure_ O X).pk 1
  replace X:=(bH (x:=(⟨l⟩:S157)) X).pk 2 |>.pk 2 |>.pk 2
  cases G
  refine a9 _ _ (hQn _ rfl _ _ ?_)
  exact aCy Tryz.results76 J ⟨d,f,rfl,N,X⟩
 obtain⟨b1,b2,G⟩:=bnd G
 have b3:=G
 have b4:∀j k,(.inl (j,k))=b1→∀g i n o p (P:Sub Z wz g i) (Q:Imm g i (kI .u8) n o p j) U w,FR 13 [] U [(0,(pP g0)),(1,(pP g1))]→SH r (blk g0 157 [.slice n o p]::own (kM g i (kI .u8)) 124 (some ⟨g1,0,none⟩) 5 5 k::zone g i::L) w→M U w:=by
  intro j k ht g i n o p P Q U w J X
  subst ht
  replace G:sE j k=some y:=G
  unfold sE at G
  exact hb1 j k G g i n o p P Q U w (J.sub _ rfl) X
 refine aD b2 (fun s U w=>∃a b q t u,Sub Z wz a b∧Imm a b (kI .u8) q t u s.1∧FR 13 [] U [(0,(pP g0)),(1,(pP g1)),(4,.int .i64 s.2.2)]∧SH r (blk g0 157 [.slice q t u]::own (kM a b (kI .u8)) 124 (some ⟨g1,0,none⟩) 5 5 s.2.1::zone a b::L) w) ⟨Z,wz,a5,a6,a7,(Sub.refl _ _),a8,J.sub _ rfl,X⟩ ?_
 intro d0 b5 b6 G b7 R U w hLab
 obtain⟨E,F,b8⟩:=b5
 replace G:fN E F b8=some b6:=G
 unfold fN at G
 try dsimp only at hLab
 obtain⟨a,b,q,t,u,H,S,J,X⟩:=hLab
 refine nz 1 J rfl fun U J=>wp_seq_k fun d1 b9=>bA J G rfl (fun c0 G=>?_) fun c0 G=>?_
 ·refine wp_skip (b9 _ _ ?_)
  refine wp_seq_k fun d2 c1=>aA fun d3 c2=>nz 2 J rfl fun U J=>aC (xk 2 J rfl fun U J=>?_)
  replace X:=(SH.pure_ S X).pk 1
  replace X:=bH (x:=(⟨E⟩:S157)) X
  refine pA G aZ8 J rfl (fun _ h=>uK h X 1 rfl) (fun I w X G=>?_) fun I v U w hR J G=>?_
  ·replace X:=X.pk 2 |>.pk 2 |>.pk 2
   cases G
   have ht:=R _ rfl
   subst ht
   replace G:=b3
   replace G:some (.inr (I,F))=some y:=G
   cases G
   exact hQp _ rfl _ _ J.defers ⟨a,b,H,X⟩
  obtain⟨rfl,X⟩:=hR
  obtain⟨c3,c4,c5,X⟩:=aM X
  obtain⟨c6,X⟩:=(X.pk 1).unpure
  obtain⟨c7,G⟩:=aB G
  refine aWc (e:=5) fE uu5 uu9 J X c7 (fun T W Y U w X J=>?_) rfl
  obtain⟨d4,a2,G⟩:=bnd G
  refine zP aHi aDb (X.rd 2 rfl) a2 J (fun U J=>?_) rfl
  replace X:=X.pk 3 |>.pk 1
  obtain⟨a3,a4,X,c8,K⟩:=SH.freezem (m:=W) (c:=Y) (A:=T) X
  have c9:=Imm.sub c6 K
  replace X:=(X.pk 2).kind (d':=(kM a3 a4 (kI .u8))) rfl (aC5 K)
  refine aFl (z':=stb I.1) (off:=0) (vs:=[.slice T W Y]) 0 aDb J X rfl (dQ a2).2.2 (fun c h=>by obtain⟨_,_,_,rfl,_⟩:=h; exact⟨_,_,_,rfl,c8⟩) (fun  U w X J=>?_) rfl rfl rfl rfl rfl rfl rfl rfl
  refine wpList_nil (c2 _ _ ?_)
  refine c1 _ _ (aC ?_)
  refine x_l G J rfl fun d5 _ U J G=>x_m J rfl fun U J=>wpList_nil ?_
  replace X:=X.pk 1 |>.pk 1 |>.pk 2
  cases G
  exact⟨_,b7 _ rfl,a3,a4,c3,c4,c5,(Sub.trans H K),c9,J.sub _ rfl,X⟩
 cases G
 exact wp_exit (b4 E F (R _ rfl) a b q t u H S U w (J.sub _ rfl) X)
theorem aBq {a0 b A0 n0 c0 a y} (G:tQ a0 b=some y) (X:SH r (own (kM Z wz (kI .u8)) 124 (some ⟨a,0,none⟩) 5 5 b::zone Z wz::L) w) (ha0:Imm Z wz (kI .u8) A0 n0 c0 a0) :
  Ret Tryz.prog 75 #[.slice A0 n0 c0,.func (.func 76) #[] #[.pointer (some ⟨a,0,none⟩)]] w fun v w'=>∃ (Z':Nat→Prop) (wz':World),v=.bool y.1∧Sub Z wz Z' wz'∧SH r (own (kM Z' wz' (kI .u8)) 124 (some ⟨a,0,none⟩) 5 5 y.2::zone Z' wz'::L) w':=by
 obtain⟨y',hy,G⟩:=bnd G
 refine Ret.mono_ (aGg (R:=fun v w'=>∃ (Z':Nat→Prop) (wz':World),v=.bool y.1∧Sub Z wz Z' wz'∧SH r (own (kM Z' wz' (kI .u8)) 124 (some ⟨a,0,none⟩) 5 5 y.2::zone Z' wz'::L) w') bBi X (fun g g4 w1 hS1=>?_)) (fun v w' h=>h)
 replace hS1:=bH (x:=⟨a0⟩) (hS1.pk 1 |> fun h=>(SH.pure_ ha0 (h.pk 1)).pk 1)
 replace hS1:=hS1.pk 1
 replace hS1:=hS1.pk 3
 replace hS1:=hS1.pk 3
 replace hS1:=hS1.pk 3
 rcases y' with y' | y'
 ·replace G:=aQ3 G
  cases G
  left
  refine Ret.mono_ (RetS.lf (zS hy hS1 :)) ?_
  rintro v w2 ⟨Z',wz',rfl,hs,X⟩
  replace X:=X.pk 3 |>.pk 1
  obtain⟨A',n',c',X⟩:=aM X
  have hQ:=SH.unpure (X.pk 1)
  clear X
  obtain⟨hi,X⟩:=hQ
  refine⟨_,A',n',c',X,fun w3 h3=>⟨Z',wz',?_,hs,h3⟩⟩
  rw [← hi.ln]
 ·replace G:=aQi G
  cases G
  right
  refine Calls.mono (RetS.rf (zS hy hS1 :)) ?_
  rintro e w2 ⟨rfl,Z',wz',hs,X⟩
  replace X:=X.pk 3 |>.drop 1
  exact⟨rfl,_,X,fun w3 h3=>⟨Z',wz',rfl,hs,h3⟩⟩
theorem aI5 {a0 a1 a2 A0 n0 c0 y} (G:rN a0 a1 a2=some y) (X:SH r (zone Z wz::L) w) (ha0:Imm Z wz (kI .u8) A0 n0 c0 a0) (hG1:Imm Z wz (kI .u32) (some ⟨1,0,none⟩) 16 16 cW) :
  Ret Tryz.prog 62 #[.slice A0 n0 c0,.int .i64 a1,.int .i64 a2] w fun v w'=>∃ (Z':Nat→Prop) (wz':World) (B0:Option Addr) (m0:Nat) (d0:Nat),v=.tuple #[(.slice B0 m0 d0),(.int .i64 y.2.1),(.int .i64 y.2.2)]∧Sub Z wz Z' wz'∧SH r (own k47 47 B0 m0 d0 y.1::zone Z' wz'::L) w':=by
 refine enter Tryz.func62 rfl Tryz.ntmps62 [(0,_),(1,_),(2,_)] rfl (by simp) ?_
 intro U J Qf hQ hQn
 unfold rN at G
 refine nz 3 J rfl fun U J=>ws fun m2 e4=>xk 2 J rfl fun U J=>?_
 obtain⟨p,e5,G⟩:=bnd G
 refine x_c bBj J rfl (aKt e5 X 0 rfl ha0 hG1 :) fun v U w hR J=>?_
 obtain⟨e6,e7,e8,rfl,X⟩:=hR
 refine nk 9 J rfl fun U J=>e4 _ _ (wp_seq_k fun m3 e9=>?_)
 refine nz 2 J rfl fun U J=>bA J G rfl (fun f0 G=>?_) fun f0 G=>?_
 ·refine nz 4 J rfl fun U J=>?_
  replace X:=(SH.nil_own (d:=k47) (e:=47) X).drop 1 |>.pk 1 |>.pk 1
  cases G
  refine wp_ret (hQ _ _ ?_)
  exact lv3 Tryz.results62 J rfl rfl rfl ⟨Z,wz,none,0,0,rfl,(Sub.refl _ _),X⟩
 refine wp_skip (e9 _ _ ?_)
 refine ws fun m4 f1=>gZ (cs:=[.slice none 0 0,.slice none 0 0,.slice none 0 0,.slice none 0 0,.slice none 0 0]) aZg J X (fun c4 U w X J=>?_) rfl
 replace X:=aTl (d:=(kM Z wz (kI .u8))) (xs:=([[],[],[],[],[]]:List (List Int))) ⟨[.slice none 0 0],_,rfl,⟨_,_,_,rfl,Imm.nil⟩,⟨[.slice none 0 0],_,rfl,⟨_,_,_,rfl,Imm.nil⟩,⟨[.slice none 0 0],_,rfl,⟨_,_,_,rfl,Imm.nil⟩,⟨[.slice none 0 0],_,rfl,⟨_,_,_,rfl,Imm.nil⟩,⟨[.slice none 0 0],_,rfl,⟨_,_,_,rfl,Imm.nil⟩,rfl⟩⟩⟩⟩⟩ rfl rfl X
 refine wn (f1 _ _ ?_)
 refine wp_seq_k fun f2 f3=>?_
 have hj1:∀c5 c6,mH a2 p c5 c6=some y→∀a b (I:Sub Z wz a b) U w,FR 149 [] U [(2,.int .i64 a2),(11,.int .i64 p.2.2.1),(13,(pP c4)),(14,.bool c6)]→SH r (own (kM a b (kI .u8)) 124 (some ⟨c4,0,none⟩) 5 5 c5::zone a b::L) w→f2 U w:=by
  intro c5 c6 G a b I U w J X
  unfold mH at G
  refine f3 _ _ (wp_seq_k fun m5 f4=>?_)
  refine nz 2 J rfl fun U J=>bA J G rfl (fun f5 G=>?_) fun f5 G=>?_
  ·refine nz 3 J rfl fun U J=>?_
   replace X:=(SH.nil_own (d:=k47) (e:=47) X).drop 1 |>.pk 1 |>.pk 1
   cases G
   refine wp_ret (hQ _ _ ?_)
   exact lv3 Tryz.results62 J rfl rfl rfl ⟨a,b,none,0,0,rfl,I,X⟩
  refine wp_skip (f4 _ _ ?_)
  refine ws fun m6 f6=>?_
  obtain⟨m7,d2,G⟩:=bnd G
  refine zP aHi aDb (X.rd 0 rfl) d2 J (fun U J=>?_) rfl
  obtain⟨cs,hV,f7⟩:=el (X.rd 0 rfl) d2
  obtain⟨m8,m9,n1,rfl,f8⟩:=hV
  refine aH fE (f7 0 _ rfl) J (fun U J=>?_) rfl
  obtain⟨f,f9,G⟩:=bnd G
  refine x_c aT4 J rfl (oS f9 X 1 rfl f8 :) fun v U w hR J=>?_
  obtain⟨B,M,N,rfl,X⟩:=hR
  refine nk 5 J rfl fun U J=>f6 _ _ (ws fun n2 g0=>?_)
  obtain⟨n3,d3,G⟩:=bnd G
  refine zP aHi aDb (X.rd 1 rfl) d3 J (fun U J=>?_) rfl
  obtain⟨cs,hV,g1⟩:=el (X.rd 1 rfl) d3
  obtain⟨n4,n5,n6,rfl,g2⟩:=hV
  refine aH fE (g1 0 _ rfl) J (fun U J=>?_) rfl
  obtain⟨t,g3,G⟩:=bnd G
  refine x_c aT4 J rfl (oS g3 X 2 rfl g2 :) fun v U w hR J=>?_
  obtain⟨C,O,P,rfl,X⟩:=hR
  refine nk 5 J rfl fun U J=>g0 _ _ (ws fun n7 g4=>?_)
  obtain⟨n8,d4,G⟩:=bnd G
  refine zP aHi aDb (X.rd 2 rfl) d4 J (fun U J=>?_) rfl
  obtain⟨cs,hV,g5⟩:=el (X.rd 2 rfl) d4
  obtain⟨n9,o0,o1,rfl,g6⟩:=hV
  refine aH fE (g5 0 _ rfl) J (fun U J=>?_) rfl
  obtain⟨x,g7,G⟩:=bnd G
  refine x_c aT4 J rfl (oS g7 X 3 rfl g6 :) fun v U w hR J=>?_
  obtain⟨D,Q,R,rfl,X⟩:=hR
  refine nk 5 J rfl fun U J=>g4 _ _ (ws fun o2 g8=>?_)
  obtain⟨o3,d5,G⟩:=bnd G
  refine zP aHi aDb (X.rd 3 rfl) d5 J (fun U J=>?_) rfl
  obtain⟨cs,hV,g9⟩:=el (X.rd 3 rfl) d5
  obtain⟨o4,o5,o6,rfl,h0⟩:=hV
  refine aH fE (g9 0 _ rfl) J (fun U J=>?_) rfl
  obtain⟨z,h1,G⟩:=bnd G
  refine x_c bCm J rfl (aBz h1 X 4 rfl h0 :) fun v U w hR J=>?_
  obtain⟨E,S,T,rfl,X⟩:=hR
  refine nk 5 J rfl fun U J=>g8 _ _ (ws fun o7 h2=>?_)
  obtain⟨o8,d6,G⟩:=bnd G
  refine zP aHi aDb (X.rd 4 rfl) d6 J (fun U J=>?_) rfl
  obtain⟨cs,hV,h3⟩:=el (X.rd 4 rfl) d6
  obtain⟨o9,p0,p1,rfl,h4⟩:=hV
  refine aH fE (h3 0 _ rfl) J (fun U J=>?_) rfl
  obtain⟨q,h5,G⟩:=bnd G
  refine x_c bBq J rfl (aBo h5 X 5 rfl h4 :) fun v U w hR J=>?_
  obtain⟨F,W,Y,rfl,X⟩:=hR
  refine nk 5 J rfl fun U J=>h2 _ _ (ws fun p2 h6=>?_)
  refine xk 1 J rfl fun U J=>aU bM (X.rd 4 rfl).2.1 J (fun U J=>?_) rfl
  refine x_m J rfl fun U J=>wn (h6 _ _ ?_)
  refine wp_seq_k fun p3 h7=>wp_seq_k fun h8 h9=>?_
  have hj2:∀c7,eY a2 p f t x z q c7=some y→∀U w,FR 149 [] U [(2,.int .i64 a2),(11,.int .i64 p.2.2.1),(15,.slice B M N),(17,.slice C O P),(19,.slice D Q R),(21,.slice E S T),(23,.slice F W Y),(25,.int .i64 (f.1.length:Int)),(111,.bool c7)]→SH r (own (kI .i64) 2 B M N f.1::own (kI .i64) 2 C O P t.1::own (kI .i64) 2 D Q R x.1::own kS 9 E S T z.1::own kF 45 F W Y q.1::zone a b::L) w→h8 U w:=by
   intro c7 G U w J X
   unfold eY at G
   refine h9 _ _ (bA J G rfl (fun i0 G=>?_) fun i0 G=>?_)
   ·refine nz 3 J rfl fun U J=>?_
    replace X:=(SH.nil_own (d:=k47) (e:=47) X).drop 1 |>.drop 1 |>.drop 1 |>.drop 1 |>.drop 1 |>.pk 1 |>.pk 1
    cases G
    refine wp_ret (hQ _ _ ?_)
    exact lv3 Tryz.results62 J rfl rfl rfl ⟨a,b,none,0,0,rfl,I,X⟩
   refine wp_skip (h7 _ _ ?_)
   refine nz 1 J rfl fun U J=>wp_seq_k fun p4 i1=>nz 2 J rfl fun U J=>aA fun d7 i2=>?_
   have hb1:∀c8,xT p c8=some y→∀a8 a9 b1 U w,FR 149 [] U [(11,.int .i64 p.2.2.1),(26,.slice a8 a9 b1)]→SH r (own k47 47 a8 a9 b1 c8::zone a b::L) w→d7 U w:=by
    intro c8 G a8 a9 b1 U w J X
    unfold xT at G
    refine i2 _ _ (i1 _ _ ?_)
    refine nz 5 J rfl fun U J=>?_
    replace X:=X.pk 1 |>.pk 1
    cases G
    refine wp_ret (hQ _ _ ?_)
    exact lv3 Tryz.results62 J rfl rfl rfl ⟨a,b,a8,a9,b1,rfl,I,X⟩
   obtain⟨i3,i4,G⟩:=bnd G
   have i5:=G
   have i6:∀a3,(.inl (a3))=i3→∀b2 b3 b4 U w,FR 149 [] U [(11,.int .i64 p.2.2.1),(26,.slice b2 b3 b4)]→SH r (own k47 47 b2 b3 b4 a3::zone a b::L) w→d7 U w:=by
    intro a3 ht b2 b3 b4 U w J X
    subst ht
    replace G:uU p a3=some y:=G
    unfold uU at G
    exact hb1 a3 G b2 b3 b4 U w (J.sub _ rfl) X
   replace X:=(SH.nil_own (d:=k47) (e:=47) X).pk 6 |>.pk 1 |>.pk 6 |>.pk 6 |>.pk 6 |>.pk 6 |>.pk 6
   refine aD i4 (fun s U w=>∃b5 b6 b7,FR 149 [] U [(2,.int .i64 a2),(11,.int .i64 p.2.2.1),(15,.slice B M N),(17,.slice C O P),(19,.slice D Q R),(21,.slice E S T),(23,.slice F W Y),(26,.slice b5 b6 b7),(112,.int .i64 (f.1.length:Int)),(113,.int .i64 s.2)]∧SH r (own (kI .i64) 2 B M N f.1::own (kI .i64) 2 C O P t.1::own (kI .i64) 2 D Q R x.1::own kS 9 E S T z.1::own kF 45 F W Y q.1::own k47 47 b5 b6 b7 s.1::zone a b::L) w) ⟨none,0,0,J.sub _ rfl,X⟩ ?_
   intro p5 i7 i8 G i9 d8 U w hLab
   obtain⟨d9,g⟩:=i7
   replace G:kA a2 f t x z q d9 g=some i8:=G
   unfold kA at G
   try dsimp only at hLab
   obtain⟨b5,b6,b7,J,X⟩:=hLab
   refine nz 1 J rfl fun U J=>wp_seq_k fun p6 j0=>bA J G rfl (fun j1 G=>?_) fun j1 G=>?_
   ·refine wp_skip (j0 _ _ ?_)
    refine wp_seq_k fun p7 j2=>aA fun p8 j3=>nz 2 J rfl fun U J=>wp_seq_k fun p9 j4=>cP [0,0,3,7,15,0,0,96,224,0,0,1536,3584,0,0,24576,57344,0,0,393216,917504,2097151,0,8388607] [22,23] rfl J X (by kernel_rfl) (by kernel_rfl) (by kernel_rfl) (by kernel_rfl) fun w X=>?_
    obtain⟨j5,b8,G⟩:=bnd G
    obtain⟨cs,hV,j6⟩:=el (X.rd 0 rfl) b8
    obtain rfl:=hV
    obtain⟨i,e0,G⟩:=nO G
    obtain⟨k,b9,G⟩:=bnd G
    obtain⟨cs,hV,j7⟩:=el (X.rd 1 rfl) b9
    obtain rfl:=hV
    obtain⟨l,c1,G⟩:=bnd G
    obtain⟨cs,hV,j8⟩:=el (X.rd 2 rfl) c1
    obtain rfl:=hV
    obtain⟨m,c2,G⟩:=bnd G
    obtain⟨cs,hV,j9⟩:=el (X.rd 3 rfl) c2
    obtain rfl:=hV
    obtain⟨o,c3,G⟩:=bnd G
    obtain⟨cs,hV,k0⟩:=el (X.rd 4 rfl) c3
    obtain rfl:=hV
    refine⟨[(0,.slice B M N),(1,.int .i64 g),(2,.pointer (some (ea B (g.toNat * 1)))),(3,.int .i64 j5),(4,.int .u64 i),(5,.slice C O P),(6,.int .i64 g),(7,.pointer (some (ea C (g.toNat * 1)))),(8,.int .i64 k),(9,.slice D Q R),(10,.int .i64 g),(11,.pointer (some (ea D (g.toNat * 1)))),(12,.int .i64 l),(13,.slice E S T),(14,.int .i64 g),(15,.pointer (some (ea E (g.toNat * 1)))),(16,str m),(17,.slice F W Y),(18,.int .i64 g),(19,.pointer (some (ea F (g.toNat * 1)))),(20,.float .f64 o),(21,.agg #[.int .u64 i,.int .i64 k,.int .i64 l,str m,.float .f64 o])],?_⟩
    refine dF [0,1,2,3,4,5,6,7,8,9,10,11,12,13,14,15,16,17,18,19,20,21] [22] (by kernel_rfl) ⟨pm rfl,pm rfl,pt [(116,_),(117,_)] rfl (fun U J=>fH bM sz2 (X.rd 0 rfl) b8 J rfl rfl rfl),pt [(118,_)] rfl (fun U J=>cM uu2 (j6 0 _ rfl) J rfl rfl rfl),pt [(119,_)] rfl fun U J=>kQ e0 (aY uu2 mE rfl (J.ev rfl)),pm rfl,pm rfl,pt [(121,_),(122,_)] rfl (fun U J=>fH bM sz2 (X.rd 1 rfl) b9 J rfl rfl rfl),pt [(123,_)] rfl (fun U J=>cM uu2 (j7 0 _ rfl) J rfl rfl rfl),pm rfl,pm rfl,pt [(125,_),(126,_)] rfl (fun U J=>fH bM sz2 (X.rd 2 rfl) c1 J rfl rfl rfl),pt [(127,_)] rfl (fun U J=>cM uu2 (j8 0 _ rfl) J rfl rfl rfl),pm rfl,pm rfl,pt [(129,_),(130,_)] rfl (fun U J=>fH lG sz9 (X.rd 3 rfl) c2 J rfl rfl rfl),pt [(131,_)] rfl (fun U J=>cM uu9 (j9 0 _ rfl) J rfl rfl rfl),pm rfl,pm rfl,pt [(133,_),(134,_)] rfl (fun U J=>fH aCj aXl (X.rd 4 rfl) c3 J rfl rfl rfl),pt [(135,_)] rfl (fun U J=>cM aKm (k0 0 _ rfl) J rfl rfl rfl),pt [(120,_),(124,_),(128,_),(132,_),(136,_)] rfl fun U J=>qB (ps:=#[(0,.int .u64 i),(1,.int .i64 k),(2,.int .i64 l),(3,str m),(4,.float .f64 o)]) rfl (sB J rfl) (fun w=>by kernel_rfl),trivial⟩ ⟨et [] rfl (fun U J K hK=>?_),trivial⟩
    refine aP6 (cs:=[.int .u64 0,.int .i64 0,.int .i64 0,str [],.float .f64 0]) aJ0 J X (fun e1 w X=>?_) rfl
    obtain⟨cs,hV,k1⟩:=el (X.rd 1 rfl) b8
    obtain rfl:=hV
    obtain⟨cs,hV,k2⟩:=el (X.rd 2 rfl) b9
    obtain rfl:=hV
    obtain⟨cs,hV,k3⟩:=el (X.rd 3 rfl) c1
    obtain rfl:=hV
    obtain⟨cs,hV,k4⟩:=el (X.rd 4 rfl) c2
    obtain rfl:=hV
    obtain⟨cs,hV,k5⟩:=el (X.rd 5 rfl) c3
    obtain rfl:=hV
    refine hK _ [] _ rfl (dF [0,1,2,3,4,5,6,7,8,9,10,11,12,13,14,15,16,17,18,19,20,21] [23] (by kernel_rfl) ⟨pm rfl,pm rfl,pt [(116,_),(117,_)] rfl (fun U J=>fH bM sz2 (X.rd 1 rfl) b8 J rfl rfl rfl),pt [(118,_)] rfl (fun U J=>cM uu2 (k1 0 _ rfl) J rfl rfl rfl),pt [(119,_)] rfl fun U J=>kQ e0 (aY uu2 mE rfl (J.ev rfl)),pm rfl,pm rfl,pt [(121,_),(122,_)] rfl (fun U J=>fH bM sz2 (X.rd 2 rfl) b9 J rfl rfl rfl),pt [(123,_)] rfl (fun U J=>cM uu2 (k2 0 _ rfl) J rfl rfl rfl),pm rfl,pm rfl,pt [(125,_),(126,_)] rfl (fun U J=>fH bM sz2 (X.rd 3 rfl) c1 J rfl rfl rfl),pt [(127,_)] rfl (fun U J=>cM uu2 (k3 0 _ rfl) J rfl rfl rfl),pm rfl,pm rfl,pt [(129,_),(130,_)] rfl (fun U J=>fH lG sz9 (X.rd 4 rfl) c2 J rfl rfl rfl),pt [(131,_)] rfl (fun U J=>cM uu9 (k4 0 _ rfl) J rfl rfl rfl),pm rfl,pm rfl,pt [(133,_),(134,_)] rfl (fun U J=>fH aCj aXl (X.rd 5 rfl) c3 J rfl rfl rfl),pt [(135,_)] rfl (fun U J=>cM aKm (k5 0 _ rfl) J rfl rfl rfl),pt [(120,_),(124,_),(128,_),(132,_),(136,_)] rfl fun U J=>qB (ps:=#[(0,.int .u64 i),(1,.int .i64 k),(2,.int .i64 l),(3,str m),(4,.float .f64 o)]) rfl (sB J rfl) (fun w=>by kernel_rfl),trivial⟩ ⟨et [(28,_),(137,_)] rfl (fun U J K hK=>?_),trivial⟩)
    refine aMo 0 cH J X rfl (fun  w X=>?_) rfl
    refine hK _ [] _ rfl (gK [] (by kernel_rfl) trivial ⟨by kernel_rfl,by kernel_rfl⟩ [(2,_),(11,_),(15,_),(17,_),(19,_),(21,_),(23,_),(26,_),(28,_),(112,_),(113,_)] rfl (fun U J=>?_))
    refine j4 _ _ (wp_seq_k fun q0 k6=>?_)
    refine ws fun q1 k7=>lH (ad:=⟨e1,0,none⟩) (cs:=[.int .u64 i,.int .i64 k,.int .i64 l,str m,.float .f64 o]) lL cH (fun j u h=>by rw [nF,Nat.zero_add]; exact X.cell 0 rfl j u h) J (fun U J=>?_) rfl
    refine x_m J rfl fun U J=>?_
    obtain⟨q2,k8,G⟩:=bnd G
    refine x_c aZf J rfl (aCt k8 X :) fun v U w hR J=>?_
    obtain⟨rfl,X⟩:=hR
    refine nk 1 J rfl fun U J=>k7 _ _ (bA J G rfl (fun k9 G=>?_) fun k9 G=>?_)
    ·refine nz 3 J rfl fun U J=>?_
     replace X:=(SH.nil_own (d:=k47) (e:=47) X).drop 1 |>.drop 1 |>.drop 1 |>.drop 1 |>.drop 1 |>.drop 1 |>.drop 1 |>.pk 1 |>.pk 1
     cases G
     refine wp_ret ?_
     have ht:=d8 _ rfl
     subst ht
     replace G:=i5
     replace G:some ([],0,3)=some y:=G
     cases G
     refine hQ _ _ (lv3 Tryz.results62 J rfl rfl rfl ?_)
     exact⟨a,b,none,0,0,rfl,I,X⟩
    refine wp_skip (k6 _ _ ?_)
    refine aC (x_m J rfl fun U J=>?_)
    refine lH (ad:=⟨e1,0,none⟩) (cs:=[.int .u64 i,.int .i64 k,.int .i64 l,str m,.float .f64 o]) lL cH (fun j u h=>by rw [nF,Nat.zero_add]; exact X.cell 0 rfl j u h) J (fun U J=>?_) rfl
    refine iM (d:=k47) (e:=47) (ps:=#[(0,.agg #[.int .u64 i,.int .i64 k,.int .i64 l,str m,.float .f64 o])]) (cells:=[.int .u64 i,.int .i64 k,.int .i64 l,str m,.float .f64 o]) (xs:=[(⟨i,k,l,m,o⟩:S47)]) (fun w=>by kernel_rfl) rfl ⟨[.int .u64 i,.int .i64 k,.int .i64 l,str m,.float .f64 o],_,rfl,rfl,rfl⟩ J X (fun q3 U w X J=>?_) rfl
    obtain⟨l0,G⟩:=aB G
    have hr:=X.rd 0 rfl
    refine gH 7 aB5 eG J X hr.1 hr.2.1 l0 rfl (fun l1 l2 l3 U w X J=>?_) rfl
    refine x_m J rfl fun U J=>wpList_nil (j3 _ _ ?_)
    refine j2 _ _ (aC ?_)
    refine x_l G J rfl fun q4 _ U J G=>x_m J rfl fun U J=>wpList_nil ?_
    replace X:=X.drop 1 |>.drop 1 |>.pk 6 |>.pk 1 |>.pk 6 |>.pk 6 |>.pk 6 |>.pk 6 |>.pk 6
    cases G
    exact⟨_,i9 _ rfl,l1,l2,l3,J.sub _ rfl,X⟩
   replace X:=X.drop 0 |>.drop 0 |>.drop 0 |>.drop 0 |>.drop 0
   cases G
   exact wp_exit (i6 d9 (d8 _ rfl) b5 b6 b7 U w (J.sub _ rfl) X)
  refine aC (xk 5 J rfl fun U J=>?_)
  refine iM (d:=(kI .i64)) (e:=28) (ps:=#[(0,.int .i64 f.2),(1,.int .i64 t.2),(2,.int .i64 x.2),(3,.int .i64 z.2),(4,.int .i64 q.2)]) (cells:=[.int .i64 f.2,.int .i64 t.2,.int .i64 x.2,.int .i64 z.2,.int .i64 q.2]) (xs:=[f.2,t.2,x.2,z.2,q.2]) (fun w=>by kernel_rfl) rfl ⟨[.int .i64 f.2],_,rfl,rfl,⟨[.int .i64 t.2],_,rfl,rfl,⟨[.int .i64 x.2],_,rfl,rfl,⟨[.int .i64 z.2],_,rfl,rfl,⟨[.int .i64 q.2],_,rfl,rfl,rfl⟩⟩⟩⟩⟩ J X (fun q5 U w X J=>?_) rfl
  obtain⟨q6,l4,G⟩:=bnd G
  refine x_c bCt J rfl (qH l4 X (RdL.own 0 rfl (X.dropN 0)) :) fun v U w hR J=>?_
  obtain⟨rfl,X⟩:=hR
  refine x_m J rfl fun U J=>bcG G (fun a4 G=>?_) fun a4 G=>?_
  ·refine xg 6 a4 J rfl rfl fun U J=>xO 4 rfl J rfl fun U J=>oA rfl J (fun U J=>?_) rfl
   refine x_m J rfl fun U J=>xO 4 rfl J rfl fun U J=>oA rfl J (fun U J=>?_) rfl
   refine x_m J rfl fun U J=>xO 4 rfl J rfl fun U J=>oA rfl J (fun U J=>?_) rfl
   refine wpList_nil ?_
   replace X:=X.drop 0 |>.drop 5 |>.pk 5 |>.pk 1 |>.pk 2 |>.pk 3 |>.pk 4 |>.pk 5
   exact hj2 true G U w (J.sub _ rfl) X
  refine xg 1 a4 J rfl rfl fun U J=>aJ a4 J ?_ rfl
  refine aU bM (X.rd 4 rfl).2.1 J (fun U J=>?_) rfl
  refine xg 4 a4 J rfl rfl fun U J=>bcG G (fun a5 G=>?_) fun a5 G=>?_
  ·refine xg 6 a5 J rfl rfl fun U J=>xO 4 rfl J rfl fun U J=>oA rfl J (fun U J=>?_) rfl
   refine x_m J rfl fun U J=>xO 4 rfl J rfl fun U J=>oA rfl J (fun U J=>?_) rfl
   refine wpList_nil ?_
   replace X:=X.drop 0 |>.drop 5 |>.pk 5 |>.pk 1 |>.pk 2 |>.pk 3 |>.pk 4 |>.pk 5
   exact hj2 true G U w (J.sub _ rfl) X
  refine xg 1 a5 J rfl rfl fun U J=>aJ a5 J ?_ rfl
  refine aU bM (X.rd 3 rfl).2.1 J (fun U J=>?_) rfl
  refine xg 4 a5 J rfl rfl fun U J=>bcG G (fun a6 G=>?_) fun a6 G=>?_
  ·refine xg 6 a6 J rfl rfl fun U J=>xO 4 rfl J rfl fun U J=>oA rfl J (fun U J=>?_) rfl
   refine wpList_nil ?_
   replace X:=X.drop 0 |>.drop 5 |>.pk 5 |>.pk 1 |>.pk 2 |>.pk 3 |>.pk 4 |>.pk 5
   exact hj2 true G U w (J.sub _ rfl) X
  refine xg 1 a6 J rfl rfl fun U J=>aJ a6 J ?_ rfl
  refine aU lG (X.rd 2 rfl).2.1 J (fun U J=>?_) rfl
  refine xg 4 a6 J rfl rfl fun U J=>bcG G (fun a7 G=>?_) fun a7 G=>?_
  ·refine ng 5 a7 J rfl rfl fun U J=>?_
   replace X:=X.drop 0 |>.drop 5 |>.pk 5 |>.pk 1 |>.pk 2 |>.pk 3 |>.pk 4 |>.pk 5
   exact hj2 true G U w (J.sub _ rfl) X
  refine xg 1 a7 J rfl rfl fun U J=>aJ a7 J ?_ rfl
  refine aU aCj (X.rd 1 rfl).2.1 J (fun U J=>?_) rfl
  refine ng 3 a7 J rfl rfl fun U J=>?_
  replace X:=X.drop 0 |>.drop 5 |>.pk 5 |>.pk 1 |>.pk 2 |>.pk 3 |>.pk 4 |>.pk 5
  exact hj2 ((q.1.length:Int) != (f.1.length:Int)) G U w (J.sub _ rfl) X
 refine aC (xk 3 J rfl fun U J=>?_)
 refine bcG G (fun H G=>?_) fun H G=>?_
 ·refine xg 1 H J rfl rfl fun U J=>aJ H J ?_ rfl
  refine x_v J (mL rfl (rW (vals:=#[]) J rfl) (rW (vals:=#[.pointer (some ⟨c4,0,none⟩)]) J rfl)) rfl fun U J=>aJ H J ?_ rfl
  replace X:=X.pk 2 |>.pk 2
  obtain⟨l5,l6,X,e2,c9⟩:=SH.freeze (n:=e7) (c:=e8) (A:=e6) X
  have l7:=Imm.sub ha0 c9
  replace X:=(X.pk 1).kind (d':=(kM l5 l6 (kI .u8))) rfl (aC5 c9)
  replace X:=X.pk 1 |>.pk 1
  obtain⟨e3,l8,G⟩:=bnd G
  refine x_c aWl J rfl (aBq l8 X e2 :) fun v U w hR J=>?_
  obtain⟨l9,m1,rfl,d1,X⟩:=hR
  have q7:=Imm.sub l7 d1
  have q8:=Imm.sub e2 d1
  exact ng 2 H J rfl rfl fun U J=>hj1 e3.2 e3.1 G l9 m1 (Sub.trans c9 d1) U w (J.sub _ rfl) X
 refine ng 5 H J rfl rfl fun U J=>?_
 replace X:=X.drop 1
 exact hj1 ([[],[],[],[],[]]:List (List Int)) false G Z wz (Sub.refl _ _) U w (J.sub _ rfl) X
end
noncomputable section
set_option linter.unusedSimpArgs false
def vY (a0:(List Int)) (a:(List Int)):Option ((List Int)) :=
  (aAa a0 101 a).bind fun b=>(some b)
def rZ (a0:(List Int)) (a:(List Int)):Option ((List Int)) :=
  vY a0 a
def lQ (b:((List Int))) (c:((List Int))) (d:((List Int))) (e:((List Int))) (f:((List Int))) (g:(List Int)) (a:Int):Option (((List Int)×Int)⊕(((List Int)))) :=
  if (decide (a<([b,c,d,e,f].length:Int)))=true then ((at_ [b,c,d,e,f] a).bind fun h=>((pM g (bts h)).bind fun i=>(ltt (IntKind.i64.wrap (a+1)) fun j=>(some (.inl (i,j)))))) else (some (.inr (g)))
def vQ (a0:(List Int)) (a:(List Int)) (b:(List Int)) (c:(List Int)) (d:(List (List UInt8))) (e:(List Nat)):Option ((List Int)) :=
  (lX a).bind fun f=>((lX b).bind fun g=>((lX c).bind fun h=>((sR d).bind fun i=>((sN e).bind fun j=>((loop (fun s=>lQ f g h i j s.1 s.2) ([],0)).bind fun t=>rZ a0 t)))))
def sF (a0:(List Int)) (a:(List Int)) (b:(List Int)) (c:(List Int)) (d:(List (List UInt8))) (e:(List Nat)):Option ((List Int)) :=
  vQ a0 a b c d e
def vM (a:Int) (b:(List Int)) (c:(List Int)) (d:(List Int)) (e:(List (List UInt8))) (f:(List Nat)):Option (((List Int)×(List Int)×(List Int)×(List (List UInt8))×(List Nat)×Int)⊕(((List Int)×(List Int)×(List Int)×(List (List UInt8))×(List Nat)))) :=
  ltt (IntKind.i64.wrap (a+1)) fun g=>(some (.inl (b,c,d,e,f,g)))
def vL (d:(List Int)) (e:(List Int)) (b:(List (List UInt8))) (c:(List Nat)) (f:Int) (a:S47) (g:(List Int)):Option (((List Int)×(List Int)×(List Int)×(List (List UInt8))×(List Nat)×Int)⊕(((List Int)×(List Int)×(List Int)×(List (List UInt8))×(List Nat)))) :=
  chk (b.length+[a.f3].length≤140737488355328 / 16) (chk (c.length+[a.f4].length≤140737488355328 / 8) (vM f g (d++[a.f1]) (e++[a.f2]) (b++[a.f3]) (c++[a.f4])))
def lZ (a1:(List S47)) (b:(List Int)) (c:(List Int)) (d:(List Int)) (f:(List (List UInt8))) (g:(List Nat)) (e:Int):Option (((List Int)×(List Int)×(List Int)×(List (List UInt8))×(List Nat)×Int)⊕(((List Int)×(List Int)×(List Int)×(List (List UInt8))×(List Nat)))) :=
  if (decide (e<(a1.length:Int)))=true then ((at_ a1 e).bind fun a=>(ltt (IntKind.i64.wrap a.f0) fun h=>(chk (b.length+[h].length≤140737488355328 / 8) (chk (c.length+[a.f1].length≤140737488355328 / 8) (chk (d.length+[a.f2].length≤140737488355328 / 8) (vL c d f g e a (b++[h]))))))) else (some (.inr (b,c,d,f,g)))
def yG (a0:(List Int)) (a1:(List S47)):Option ((List Int)) :=
  (loop (fun s=>lZ a1 s.1 s.2.1 s.2.2.1 s.2.2.2.1 s.2.2.2.2.1 s.2.2.2.2.2) ([],[],[],[],[],0)).bind fun t=>sF a0 t.1 t.2.1 t.2.2.1 t.2.2.2.1 t.2.2.2.2
end
end Go.Proofs.YtnefioccdkmegaaGreatDoor.M
